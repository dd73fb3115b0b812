/- The program computes the plain functions. No condition. -/
import Derived.Test.YtiohllblkcjafaaQRecordsInS
import Derived.Test.YtiohllblkcjafaaProg
import Derived.Test.YtiohllblkcjafaaQRecordsInL3
set_option maxRecDepth 100000
set_option linter.unusedVariables false
set_option linter.unusedSimpArgs false
namespace AS.W
open Go Go.Proofs
def rs_laws_FnExactRecordsIn (r : Bool) : List D := [cB.enc r]
def m8 : MC := .seq (.reg [⟨some 5, .box (.t 0), none⟩,
    ⟨some 7, .box (.t 2), none⟩,
    ⟨some 10, .asg (.c (.bool false)), none⟩] [1, 3, 4, 5, 7])
  (.seq (.reg [⟨some 11, .asg (.c (.int .i64 1048576)), none⟩] [1, 3, 4, 5, 7, 11])
  (.seq (.reg [⟨some 25, .ld 5 1 true, none⟩,
    ⟨some 26, .mv (.t 11), none⟩,
    ⟨some 27, .call 10 [(.t 25), (.t 26)], none⟩,
    ⟨some 11, .asg (.t 27), none⟩] [1, 3, 4, 5, 7, 11])
  (.seq (.kp [1, 3, 4, 5, 7, 11] (.seq (.reg [⟨some 28, .mv (.t 11), none⟩,
    ⟨some 29, .bin .lss (.t 28) (.c (.int .i64 0)), none⟩] [1, 3, 4, 5, 7, 11, 29])
  (.cond (.t 29) (.seq (.reg [⟨some 10, .asg (.c (.bool true)), none⟩] [10])
  (.ret)) (.skip))))
  (.seq (.reg [⟨some 30, .mv (.t 1), none⟩,
    ⟨some 31, .mv (.t 11), none⟩,
    ⟨some 32, .call 11 [(.t 30), (.t 31)], none⟩,
    ⟨some 11, .asg (.t 32), none⟩] [1, 3, 4, 5, 7, 11])
  (.seq (.kp [1, 3, 4, 5, 7, 11] (.seq (.reg [⟨some 33, .mv (.t 11), none⟩,
    ⟨some 34, .bin .lss (.t 33) (.c (.int .i64 0)), none⟩] [1, 3, 4, 5, 7, 11, 34])
  (.cond (.t 34) (.seq (.reg [⟨some 10, .asg (.c (.bool true)), none⟩] [10])
  (.ret)) (.skip))))
  (.seq (.reg [⟨some 35, .ld 7 4 true, none⟩,
    ⟨some 36, .mv (.t 11), none⟩,
    ⟨some 37, .call 21 [(.t 35), (.t 36)], none⟩,
    ⟨some 11, .asg (.t 37), none⟩] [1, 3, 4, 5, 7, 11])
  (.seq (.kp [1, 3, 4, 5, 7, 11] (.seq (.reg [⟨some 38, .mv (.t 11), none⟩,
    ⟨some 39, .bin .lss (.t 38) (.c (.int .i64 0)), none⟩] [1, 3, 4, 5, 7, 11, 39])
  (.cond (.t 39) (.seq (.reg [⟨some 10, .asg (.c (.bool true)), none⟩] [10])
  (.ret)) (.skip))))
  (.seq (.reg [⟨some 40, .mv (.t 3), none⟩,
    ⟨some 41, .mv (.t 11), none⟩,
    ⟨some 42, .call 44 [(.t 40), (.t 41)], none⟩,
    ⟨some 11, .asg (.t 42), none⟩] [1, 3, 4, 5, 7, 11])
  (.seq (.kp [1, 3, 4, 5, 7] (.seq (.reg [⟨some 43, .mv (.t 11), none⟩,
    ⟨some 44, .bin .lss (.t 43) (.c (.int .i64 0)), none⟩] [1, 3, 4, 5, 7, 44])
  (.cond (.t 44) (.seq (.reg [⟨some 10, .asg (.c (.bool true)), none⟩] [10])
  (.ret)) (.skip))))
  (.seq (.drg [⟨0, ⟨some 46, .ld 5 1 true, none⟩, [47, 48, 49, 50, 51, 52, 53, 54, 55]⟩,
    ⟨1, ⟨some 47, .call 14 [(.t 46)], none⟩, [48, 49, 50, 51, 52, 53, 54, 55]⟩,
    ⟨2, ⟨some 48, .mv (.t 1), none⟩, [46, 47, 49, 50, 51, 52, 53, 54, 55]⟩,
    ⟨3, ⟨some 49, .call 15 [(.t 48)], none⟩, [50, 51, 52, 53, 54, 55]⟩,
    ⟨4, ⟨some 50, .ld 7 4 true, none⟩, [46, 47, 48, 49, 51, 52, 53, 54, 55]⟩,
    ⟨5, ⟨some 51, .call 24 [(.t 50)], none⟩, [52, 53, 54, 55]⟩,
    ⟨6, ⟨some 52, .mv (.t 3), none⟩, [46, 47, 48, 49, 50, 51, 53, 54, 55]⟩,
    ⟨7, ⟨some 53, .call 46 [(.t 52)], none⟩, [54, 55]⟩,
    ⟨8, ⟨some 54, .mv (.t 4), none⟩, [46, 47, 48, 49, 50, 51, 52, 53, 55]⟩,
    ⟨9, ⟨some 55, .call 45 [(.t 47), (.t 49), (.t 51), (.t 53), (.t 54)], none⟩, []⟩]
    [(10, ⟨some 45, .mvt 55, none⟩),
    (11, ⟨some 56, .ext 45 0, none⟩),
    (12, ⟨some 57, .ext 45 1, none⟩),
    (13, ⟨some 12, .asg (.t 56), none⟩),
    (14, ⟨some 13, .asg (.t 57), none⟩)] [1, 3, 4, 5, 7, 12, 13] [12, 13, 45, 55, 56, 57, 1, 3, 4, 5, 7] [([false, false, false, false, false], 0), ([true, false, false, false, false], 1), ([true, false, false, false, false], 2), ([true, true, false, false, false], 2), ([true, true, false, false, false], 3), ([true, false, true, false, false], 1), ([true, true, true, false, false], 3), ([true, true, false, true, false], 2), ([true, true, true, true, false], 4)])
  (.seq (.reg [⟨some 58, .ld 5 1 true, none⟩,
    ⟨some 59, .call 14 [(.t 58)], none⟩,
    ⟨some 14, .alloc (.agg [.slice true []]), none⟩,
    ⟨none, .st 14 (.t 59) 1, none⟩] [1, 3, 4, 5, 7, 12, 13, 14])
  (.seq (.reg [⟨some 60, .mv (.t 1), none⟩,
    ⟨some 61, .call 15 [(.t 60)], none⟩,
    ⟨some 15, .asg (.t 61), none⟩] [1, 3, 4, 5, 7, 12, 13, 14, 15])
  (.seq (.reg [⟨some 62, .ld 7 4 true, none⟩,
    ⟨some 63, .call 24 [(.t 62)], none⟩,
    ⟨some 16, .alloc (.agg [.int .i64 0, .slice true [], .slice true [], .int .i64 0]), none⟩,
    ⟨none, .st 16 (.t 63) 4, none⟩] [1, 3, 4, 5, 7, 12, 13, 14, 15, 16])
  (.seq (.reg [⟨some 64, .mv (.t 3), none⟩,
    ⟨some 65, .call 46 [(.t 64)], none⟩,
    ⟨some 17, .asg (.t 65), none⟩] [1, 3, 4, 5, 7, 12, 13, 14, 15, 16, 17])
  (.seq (.reg [⟨some 67, .ld 14 1 true, none⟩,
    ⟨some 68, .mv (.t 15), none⟩,
    ⟨some 69, .ld 16 4 true, none⟩,
    ⟨some 70, .mv (.t 17), none⟩,
    ⟨some 71, .mv (.t 4), none⟩,
    ⟨some 72, .call 47 [(.t 67), (.t 68), (.t 69), (.t 70), (.t 71)], none⟩,
    ⟨some 66, .mvt 72, none⟩,
    ⟨some 73, .ext 66 0, none⟩,
    ⟨some 74, .ext 66 1, none⟩,
    ⟨some 18, .asg (.t 73), none⟩,
    ⟨some 19, .asg (.t 74), none⟩] [1, 3, 4, 5, 7, 12, 13, 14, 15, 16, 17, 18, 19])
  (.seq (.kp [1, 3, 4, 5, 7, 12, 13, 14, 15, 16, 17, 18, 19] (.seq (.reg [⟨some 75, .mv (.t 18), none⟩,
    ⟨some 76, .mv (.t 12), none⟩,
    ⟨some 77, .call 37 [(.t 75), (.t 76)], none⟩,
    ⟨some 78, .nt (.t 77), none⟩,
    ⟨some 79, .mv (.t 78), none⟩,
    ⟨some 80, .mv (.t 19), some (79, false)⟩,
    ⟨some 81, .mv (.t 13), some (79, false)⟩,
    ⟨some 82, .eqb true (.t 80) (.t 81), some (79, false)⟩,
    ⟨some 83, .pick (.t 79) (.c (.bool true)) (.t 82), none⟩] [1, 3, 4, 5, 7, 12, 13, 14, 15, 16, 17, 18, 19, 83])
  (.cond (.t 83) (.seq (.reg [⟨some 10, .asg (.c (.bool false)), none⟩] [10])
  (.ret)) (.skip))))
  (.seq (.kp [1, 3, 4, 5, 7, 12, 13, 14, 15, 16, 17, 18, 19] (.seq (.drw [⟨0, ⟨some 84, .ld 14 1 true, none⟩, [85, 86, 87, 88]⟩,
    ⟨1, ⟨some 85, .ld 5 1 true, none⟩, [84, 86, 87, 88]⟩,
    ⟨2, ⟨some 86, .call 14 [(.t 85)], none⟩, [84, 87, 88]⟩,
    ⟨3, ⟨some 87, .call 18 [(.t 84), (.t 86)], none⟩, [88]⟩,
    ⟨4, ⟨some 88, .nt (.t 87), none⟩, []⟩]
    [] [1, 3, 4, 5, 7, 12, 13, 14, 15, 16, 17, 18, 19, 88])
  (.cond (.t 88) (.seq (.reg [⟨some 10, .asg (.c (.bool false)), none⟩] [10])
  (.ret)) (.skip))))
  (.seq (.kp [1, 3, 4, 5, 7, 12, 13, 14, 15, 16, 17, 18, 19] (.seq (.reg [⟨some 89, .mv (.t 15), none⟩,
    ⟨some 90, .mv (.t 1), none⟩,
    ⟨some 91, .call 15 [(.t 90)], none⟩,
    ⟨some 92, .call 19 [(.t 89), (.t 91)], none⟩,
    ⟨some 93, .nt (.t 92), none⟩] [1, 3, 4, 5, 7, 12, 13, 14, 15, 16, 17, 18, 19, 93])
  (.cond (.t 93) (.seq (.reg [⟨some 10, .asg (.c (.bool false)), none⟩] [10])
  (.ret)) (.skip))))
  (.seq (.kp [1, 3, 4, 5, 7, 12, 13, 14, 15, 16, 17, 18, 19] (.seq (.drw [⟨0, ⟨some 94, .ld 16 4 true, none⟩, [95, 96, 97, 98]⟩,
    ⟨1, ⟨some 95, .ld 7 4 true, none⟩, [94, 96, 97, 98]⟩,
    ⟨2, ⟨some 96, .call 24 [(.t 95)], none⟩, [94, 97, 98]⟩,
    ⟨3, ⟨some 97, .call 27 [(.t 94), (.t 96)], none⟩, [98]⟩,
    ⟨4, ⟨some 98, .nt (.t 97), none⟩, []⟩]
    [] [1, 3, 4, 5, 7, 12, 13, 14, 15, 16, 17, 18, 19, 98])
  (.cond (.t 98) (.seq (.reg [⟨some 10, .asg (.c (.bool false)), none⟩] [10])
  (.ret)) (.skip))))
  (.seq (.kp [1, 3, 4, 5, 7, 12, 13, 14, 15, 16, 17, 18, 19] (.seq (.reg [⟨some 99, .mv (.t 17), none⟩,
    ⟨some 100, .mv (.t 3), none⟩,
    ⟨some 101, .call 46 [(.t 100)], none⟩,
    ⟨some 102, .call 48 [(.t 99), (.t 101)], none⟩,
    ⟨some 103, .nt (.t 102), none⟩] [1, 3, 4, 5, 7, 12, 13, 14, 15, 16, 17, 18, 19, 103])
  (.cond (.t 103) (.seq (.reg [⟨some 10, .asg (.c (.bool false)), none⟩] [10])
  (.ret)) (.skip))))
  (.seq (.reg [⟨some 20, .asg (.c (.int .i64 1)), none⟩] [1, 3, 4, 5, 7, 12, 13, 14, 15, 16, 17, 18, 19, 20])
  (.seq (.reg [⟨some 104, .ld 14 1 true, none⟩,
    ⟨some 105, .mv (.t 20), none⟩,
    ⟨some 106, .callO 31 [(.t 104), (.t 105)], none⟩,
    ⟨some 20, .asg (.t 106), none⟩] [1, 3, 4, 5, 7, 12, 13, 15, 16, 17, 18, 19, 20])
  (.seq (.reg [⟨some 107, .mv (.t 15), none⟩,
    ⟨some 108, .mv (.t 20), none⟩,
    ⟨some 109, .callO 32 [(.t 107), (.t 108)], none⟩,
    ⟨some 20, .asg (.t 109), none⟩] [1, 3, 4, 5, 7, 12, 13, 16, 17, 18, 19, 20])
  (.seq (.reg [⟨some 110, .ld 16 4 true, none⟩,
    ⟨some 111, .mv (.t 20), none⟩,
    ⟨some 112, .callO 42 [(.t 110), (.t 111)], none⟩,
    ⟨some 20, .asg (.t 112), none⟩] [1, 3, 4, 5, 7, 12, 13, 17, 18, 19, 20])
  (.seq (.reg [⟨some 113, .mv (.t 17), none⟩,
    ⟨some 114, .mv (.t 20), none⟩,
    ⟨some 115, .callO 49 [(.t 113), (.t 114)], none⟩,
    ⟨some 20, .asg (.t 115), none⟩] [1, 3, 4, 5, 7, 12, 13, 18, 19, 20])
  (.seq (.kp [1, 3, 4, 5, 7, 12, 13, 18] (.seq (.reg [⟨some 116, .mv (.t 20), none⟩,
    ⟨some 117, .bin .lss (.t 116) (.c (.int .i64 0)), none⟩,
    ⟨some 118, .mv (.t 117), none⟩,
    ⟨some 119, .mv (.t 18), some (118, false)⟩,
    ⟨some 120, .mv (.t 12), some (118, false)⟩,
    ⟨some 121, .call 37 [(.t 119), (.t 120)], some (118, false)⟩,
    ⟨some 122, .nt (.t 121), some (118, false)⟩,
    ⟨some 123, .pick (.t 118) (.c (.bool true)) (.t 122), none⟩,
    ⟨some 124, .mv (.t 123), none⟩,
    ⟨some 125, .mv (.t 19), some (124, false)⟩,
    ⟨some 126, .mv (.t 13), some (124, false)⟩,
    ⟨some 127, .eqb true (.t 125) (.t 126), some (124, false)⟩,
    ⟨some 128, .pick (.t 124) (.c (.bool true)) (.t 127), none⟩] [1, 3, 4, 5, 7, 12, 13, 18, 128])
  (.cond (.t 128) (.seq (.reg [⟨some 10, .asg (.c (.bool false)), none⟩] [10])
  (.ret)) (.skip))))
  (.seq (.reg [⟨some 21, .asg (.c (.int .i64 1)), none⟩] [1, 3, 4, 5, 7, 12, 13, 18, 21])
  (.seq (.reg [⟨some 129, .mv (.t 18), none⟩,
    ⟨some 130, .mv (.t 21), none⟩,
    ⟨some 131, .callO 38 [(.t 129), (.t 130)], none⟩,
    ⟨some 21, .asg (.t 131), none⟩] [1, 3, 4, 5, 7, 12, 13, 18, 21])
  (.seq (.reg [⟨some 22, .asg (.c (.int .i64 1)), none⟩] [1, 3, 4, 5, 7, 12, 13, 18, 21, 22])
  (.seq (.reg [⟨some 132, .mv (.t 18), none⟩,
    ⟨some 133, .mv (.t 22), none⟩,
    ⟨some 134, .call 39 [(.t 132), (.t 133)], none⟩,
    ⟨some 22, .asg (.t 134), none⟩] [1, 3, 4, 5, 7, 12, 13, 18, 21, 22])
  (.seq (.kp [1, 3, 4, 5, 7, 12, 13, 18, 21, 22] (.seq (.reg [⟨some 135, .mv (.t 22), none⟩,
    ⟨some 136, .bin .lss (.t 135) (.c (.int .i64 0)), none⟩] [1, 3, 4, 5, 7, 12, 13, 18, 21, 22, 136])
  (.cond (.t 136) (.seq (.reg [⟨some 10, .asg (.c (.bool false)), none⟩] [10])
  (.ret)) (.skip))))
  (.seq (.kp [1, 3, 4, 5, 7, 12, 13, 18, 21] (.seq (.reg [⟨some 137, .mv (.t 22), none⟩,
    ⟨some 138, .mv (.t 21), none⟩,
    ⟨some 139, .bin .neq (.t 137) (.t 138), none⟩] [1, 3, 4, 5, 7, 12, 13, 18, 21, 139])
  (.cond (.t 139) (.seq (.reg [⟨some 10, .asg (.c (.bool false)), none⟩] [10])
  (.ret)) (.skip))))
  (.seq (.drg [⟨0, ⟨some 141, .ld 5 1 true, none⟩, [142, 143, 144, 145, 146, 147, 148, 149, 150]⟩,
    ⟨1, ⟨some 142, .call 14 [(.t 141)], none⟩, [143, 144, 145, 146, 147, 148, 149, 150]⟩,
    ⟨2, ⟨some 143, .mv (.t 1), none⟩, [141, 142, 144, 145, 146, 147, 148, 149, 150]⟩,
    ⟨3, ⟨some 144, .call 15 [(.t 143)], none⟩, [145, 146, 147, 148, 149, 150]⟩,
    ⟨4, ⟨some 145, .ld 7 4 true, none⟩, [141, 142, 143, 144, 146, 147, 148, 149, 150]⟩,
    ⟨5, ⟨some 146, .call 24 [(.t 145)], none⟩, [147, 148, 149, 150]⟩,
    ⟨6, ⟨some 147, .mv (.t 3), none⟩, [141, 142, 143, 144, 145, 146, 148, 149, 150]⟩,
    ⟨7, ⟨some 148, .call 46 [(.t 147)], none⟩, [149, 150]⟩,
    ⟨8, ⟨some 149, .mv (.t 4), none⟩, [141, 142, 143, 144, 145, 146, 147, 148, 150]⟩,
    ⟨9, ⟨some 150, .call 47 [(.t 142), (.t 144), (.t 146), (.t 148), (.t 149)], none⟩, []⟩]
    [(10, ⟨some 140, .mvt 150, none⟩),
    (11, ⟨some 151, .ext 140 0, none⟩),
    (12, ⟨some 152, .ext 140 1, none⟩),
    (13, ⟨some 23, .asg (.t 151), none⟩),
    (14, ⟨some 24, .asg (.t 152), none⟩)] [12, 13, 18, 21, 23, 24] [23, 24, 140, 150, 151, 152, 12, 13, 18, 21] [([false, false, false, false, false], 0), ([true, false, false, false, false], 1), ([true, false, false, false, false], 2), ([true, true, false, false, false], 2), ([true, true, false, false, false], 3), ([true, false, true, false, false], 1), ([true, true, true, false, false], 3), ([true, true, false, true, false], 2), ([true, true, true, true, false], 4)])
  (.seq (.kp [18, 21] (.seq (.reg [⟨some 153, .mv (.t 23), none⟩,
    ⟨some 154, .mv (.t 12), none⟩,
    ⟨some 155, .call 37 [(.t 153), (.t 154)], none⟩,
    ⟨some 156, .nt (.t 155), none⟩,
    ⟨some 157, .mv (.t 156), none⟩,
    ⟨some 158, .mv (.t 24), some (157, false)⟩,
    ⟨some 159, .mv (.t 13), some (157, false)⟩,
    ⟨some 160, .eqb true (.t 158) (.t 159), some (157, false)⟩,
    ⟨some 161, .pick (.t 157) (.c (.bool true)) (.t 160), none⟩] [18, 21, 161])
  (.cond (.t 161) (.seq (.reg [⟨some 10, .asg (.c (.bool false)), none⟩] [10])
  (.ret)) (.skip))))
  (.seq (.reg [⟨some 22, .asg (.c (.int .i64 1)), none⟩] [18, 21, 22])
  (.seq (.reg [⟨some 162, .mv (.t 18), none⟩,
    ⟨some 163, .mv (.t 22), none⟩,
    ⟨some 164, .call 39 [(.t 162), (.t 163)], none⟩,
    ⟨some 22, .asg (.t 164), none⟩] [21, 22])
  (.seq (.kp [21, 22] (.seq (.reg [⟨some 165, .mv (.t 22), none⟩,
    ⟨some 166, .bin .lss (.t 165) (.c (.int .i64 0)), none⟩] [21, 22, 166])
  (.cond (.t 166) (.seq (.reg [⟨some 10, .asg (.c (.bool false)), none⟩] [10])
  (.ret)) (.skip))))
  (.seq (.kp [] (.seq (.reg [⟨some 167, .mv (.t 22), none⟩,
    ⟨some 168, .mv (.t 21), none⟩,
    ⟨some 169, .bin .neq (.t 167) (.t 168), none⟩] [169])
  (.cond (.t 169) (.seq (.reg [⟨some 10, .asg (.c (.bool false)), none⟩] [10])
  (.ret)) (.skip))))
  (.seq (.reg [⟨some 10, .asg (.c (.bool true)), none⟩] [10])
  (.ret))))))))))))))))))))))))))))))))))))))))
theorem con_laws_FnExactRecordsIn {v0 : XGeo} {v1 : (List XVariable)} {v2 : XTable} {v3 : (List XRecord)} {v4 : Int} {r : Bool} (h : sh_laws_FnExactRecordsIn v0 v1 v2 v3 v4 = some r) : Con Try.prog 8 [(cXGeo (cLs cI rfl)).enc v0, (cLs (cXVariable cS cI) rfl).enc v1, (cXTable cI (cLs cI rfl) (cLs cI rfl) cI).enc v2, (cLs (cXRecord cI cI (cLs cI rfl)) rfl).enc v3, cI.enc v4] [] (rs_laws_FnExactRecordsIn r) := by
  delta sh_laws_FnExactRecordsIn at h
  refine top (out := none) (f := Try.f8) (m := m8) (rs := [.t 10]) (by kernel_rfl) rfl (by kernel_rfl) (by kernel_rfl) (by kernel_rfl) (by kernel_rfl) (by kernel_rfl) ?_
  exact
   ini [(0, .d ((cXGeo (cLs cI rfl)).enc v0)), (1, .d ((cLs (cXVariable cS cI) rfl).enc v1)), (2, .d ((cXTable cI (cLs cI rfl) (cLs cI rfl) cI).enc v2)), (3, .d ((cLs (cXRecord cI cI (cLs cI rfl)) rfl).enc v3)), (4, .d (cI.enc v4))] rfl <| wpC_seq <| reg_s <| x_box (ss rfl rfl) <| x_box (ss rfl rfl) <| x_asg (sc cB false rfl) <| seqN [(1, .d ((cLs (cXVariable cS cI) rfl).enc v1)), (3, .d ((cLs (cXRecord cI cI (cLs cI rfl)) rfl).enc v3)), (4, .d (cI.enc v4)), (5, .box ((cXGeo (cLs cI rfl)).enc v0)), (7, .box ((cXTable cI (cLs cI rfl) (cLs cI rfl) cI).enc v2))] (by kernel_rfl) <|
    xn <| wpC_seq <| reg_s <| x_asg (sc cI (1048576 : Int) rfl) <| seqN [(1, .d ((cLs (cXVariable cS cI) rfl).enc v1)), (3, .d ((cLs (cXRecord cI cI (cLs cI rfl)) rfl).enc v3)), (4, .d (cI.enc v4)), (5, .box ((cXGeo (cLs cI rfl)).enc v0)), (7, .box ((cXTable cI (cLs cI rfl) (cLs cI rfl) cI).enc v2)), (11, .d (cI.enc (1048576 : Int)))] (by kernel_rfl) <|
    xn <| wpC_seq <| reg_s <| st rfl <| ldb rfl rfl rfl rfl <| st rfl <| mvd rfl rfl <| bnd h fun x3 e4 h => st rfl <| o_call (a1 (c := (cXGeo (cLs cI rfl))) (tXGeo (tLs tK)) rfl (a1 (c := cI) tK rfl a0)) (con_laws_szGeo e4) (.inl (so1 sK so0)) <| x_asg (ss rfl rfl) <| seqN [(1, .d ((cLs (cXVariable cS cI) rfl).enc v1)), (3, .d ((cLs (cXRecord cI cI (cLs cI rfl)) rfl).enc v3)), (4, .d (cI.enc v4)), (5, .box ((cXGeo (cLs cI rfl)).enc v0)), (7, .box ((cXTable cI (cLs cI rfl) (cLs cI rfl) cI).enc v2)), (11, .d (cI.enc x3))] (by kernel_rfl) <|
    xn <| wpC_seq <| wpC_kp <| wpC_seq <| reg_s <| st rfl <| mvd rfl rfl <| st rfl <| b_lss (k := .i64) rfl rfl <| seqN [(1, .d ((cLs (cXVariable cS cI) rfl).enc v1)), (3, .d ((cLs (cXRecord cI cI (cLs cI rfl)) rfl).enc v3)), (4, .d (cI.enc v4)), (5, .box ((cXGeo (cLs cI rfl)).enc v0)), (7, .box ((cXTable cI (cLs cI rfl) (cLs cI rfl) cI).enc v2)), (11, .d (cI.enc x3)), (29, .d (cB.enc (decide (x3 < (0 : Int)))))] (by kernel_rfl) <|
    xn <| cnd rfl h (fun b6 h => wpC_seq <| reg_s <| x_asg (sc cB true rfl) <| seqN [(10, .d (cB.enc true))] (by kernel_rfl) <|
    xn <| wpC_ret <| rt <| rt <| re <| fin h (r1 (ss rfl rfl) <| r0) rfl)
    (fun b6 h => wpC_skip <| kpN [(1, .d ((cLs (cXVariable cS cI) rfl).enc v1)), (3, .d ((cLs (cXRecord cI cI (cLs cI rfl)) rfl).enc v3)), (4, .d (cI.enc v4)), (5, .box ((cXGeo (cLs cI rfl)).enc v0)), (7, .box ((cXTable cI (cLs cI rfl) (cLs cI rfl) cI).enc v2)), (11, .d (cI.enc x3))] (by kernel_rfl) <| xn <| wpC_seq <| reg_s <| st rfl <| mvd rfl rfl <| st rfl <| mvd rfl rfl <| bnd h fun x9 e10 h => st rfl <| o_call (a1 (c := (cLs (cXVariable cS cI) rfl)) (tLs (tXVariable tS tK)) rfl (a1 (c := cI) tK rfl a0)) (con_laws_szVariableS e10) (.inl (so1 sK so0)) <| x_asg (ss rfl rfl) <| seqN [(1, .d ((cLs (cXVariable cS cI) rfl).enc v1)), (3, .d ((cLs (cXRecord cI cI (cLs cI rfl)) rfl).enc v3)), (4, .d (cI.enc v4)), (5, .box ((cXGeo (cLs cI rfl)).enc v0)), (7, .box ((cXTable cI (cLs cI rfl) (cLs cI rfl) cI).enc v2)), (11, .d (cI.enc x9))] (by kernel_rfl) <|
    xn <| wpC_seq <| wpC_kp <| wpC_seq <| reg_s <| st rfl <| mvd rfl rfl <| st rfl <| b_lss (k := .i64) rfl rfl <| seqN [(1, .d ((cLs (cXVariable cS cI) rfl).enc v1)), (3, .d ((cLs (cXRecord cI cI (cLs cI rfl)) rfl).enc v3)), (4, .d (cI.enc v4)), (5, .box ((cXGeo (cLs cI rfl)).enc v0)), (7, .box ((cXTable cI (cLs cI rfl) (cLs cI rfl) cI).enc v2)), (11, .d (cI.enc x9)), (34, .d (cB.enc (decide (x9 < (0 : Int)))))] (by kernel_rfl) <|
    xn <| cnd rfl h (fun b12 h => wpC_seq <| reg_s <| x_asg (sc cB true rfl) <| seqN [(10, .d (cB.enc true))] (by kernel_rfl) <|
    xn <| wpC_ret <| rt <| rt <| re <| fin h (r1 (ss rfl rfl) <| r0) rfl)
    (fun b12 h => wpC_skip <| kpN [(1, .d ((cLs (cXVariable cS cI) rfl).enc v1)), (3, .d ((cLs (cXRecord cI cI (cLs cI rfl)) rfl).enc v3)), (4, .d (cI.enc v4)), (5, .box ((cXGeo (cLs cI rfl)).enc v0)), (7, .box ((cXTable cI (cLs cI rfl) (cLs cI rfl) cI).enc v2)), (11, .d (cI.enc x9))] (by kernel_rfl) <| xn <| wpC_seq <| reg_s <| st rfl <| ldb rfl rfl rfl rfl <| st rfl <| mvd rfl rfl <| bnd h fun x15 e16 h => st rfl <| o_call (a1 (c := (cXTable cI (cLs cI rfl) (cLs cI rfl) cI)) (tXTable tK (tLs tK) (tLs tK) tK) rfl (a1 (c := cI) tK rfl a0)) (con_laws_szTable e16) (.inl (so1 sK so0)) <| x_asg (ss rfl rfl) <| seqN [(1, .d ((cLs (cXVariable cS cI) rfl).enc v1)), (3, .d ((cLs (cXRecord cI cI (cLs cI rfl)) rfl).enc v3)), (4, .d (cI.enc v4)), (5, .box ((cXGeo (cLs cI rfl)).enc v0)), (7, .box ((cXTable cI (cLs cI rfl) (cLs cI rfl) cI).enc v2)), (11, .d (cI.enc x15))] (by kernel_rfl) <|
    xn <| wpC_seq <| wpC_kp <| wpC_seq <| reg_s <| st rfl <| mvd rfl rfl <| st rfl <| b_lss (k := .i64) rfl rfl <| seqN [(1, .d ((cLs (cXVariable cS cI) rfl).enc v1)), (3, .d ((cLs (cXRecord cI cI (cLs cI rfl)) rfl).enc v3)), (4, .d (cI.enc v4)), (5, .box ((cXGeo (cLs cI rfl)).enc v0)), (7, .box ((cXTable cI (cLs cI rfl) (cLs cI rfl) cI).enc v2)), (11, .d (cI.enc x15)), (39, .d (cB.enc (decide (x15 < (0 : Int)))))] (by kernel_rfl) <|
    xn <| cnd rfl h (fun b18 h => wpC_seq <| reg_s <| x_asg (sc cB true rfl) <| seqN [(10, .d (cB.enc true))] (by kernel_rfl) <|
    xn <| wpC_ret <| rt <| rt <| re <| fin h (r1 (ss rfl rfl) <| r0) rfl)
    (fun b18 h => wpC_skip <| kpN [(1, .d ((cLs (cXVariable cS cI) rfl).enc v1)), (3, .d ((cLs (cXRecord cI cI (cLs cI rfl)) rfl).enc v3)), (4, .d (cI.enc v4)), (5, .box ((cXGeo (cLs cI rfl)).enc v0)), (7, .box ((cXTable cI (cLs cI rfl) (cLs cI rfl) cI).enc v2)), (11, .d (cI.enc x15))] (by kernel_rfl) <| xn <| wpC_seq <| reg_s <| st rfl <| mvd rfl rfl <| st rfl <| mvd rfl rfl <| bnd h fun x21 e22 h => st rfl <| o_call (a1 (c := (cLs (cXRecord cI cI (cLs cI rfl)) rfl)) (tLs (tXRecord tK tK (tLs tK))) rfl (a1 (c := cI) tK rfl a0)) (con_laws_szRecordS e22) (.inl (so1 sK so0)) <| x_asg (ss rfl rfl) <| seqN [(1, .d ((cLs (cXVariable cS cI) rfl).enc v1)), (3, .d ((cLs (cXRecord cI cI (cLs cI rfl)) rfl).enc v3)), (4, .d (cI.enc v4)), (5, .box ((cXGeo (cLs cI rfl)).enc v0)), (7, .box ((cXTable cI (cLs cI rfl) (cLs cI rfl) cI).enc v2)), (11, .d (cI.enc x21))] (by kernel_rfl) <|
    xn <| wpC_seq <| wpC_kp <| wpC_seq <| reg_s <| st rfl <| mvd rfl rfl <| st rfl <| b_lss (k := .i64) rfl rfl <| seqN [(1, .d ((cLs (cXVariable cS cI) rfl).enc v1)), (3, .d ((cLs (cXRecord cI cI (cLs cI rfl)) rfl).enc v3)), (4, .d (cI.enc v4)), (5, .box ((cXGeo (cLs cI rfl)).enc v0)), (7, .box ((cXTable cI (cLs cI rfl) (cLs cI rfl) cI).enc v2)), (44, .d (cB.enc (decide (x21 < (0 : Int)))))] (by kernel_rfl) <|
    xn <| cnd rfl h (fun b24 h => wpC_seq <| reg_s <| x_asg (sc cB true rfl) <| seqN [(10, .d (cB.enc true))] (by kernel_rfl) <|
    xn <| wpC_ret <| rt <| rt <| re <| fin h (r1 (ss rfl rfl) <| r0) rfl)
    (fun b24 h => wpC_skip <| kpN [(1, .d ((cLs (cXVariable cS cI) rfl).enc v1)), (3, .d ((cLs (cXRecord cI cI (cLs cI rfl)) rfl).enc v3)), (4, .d (cI.enc v4)), (5, .box ((cXGeo (cLs cI rfl)).enc v0)), (7, .box ((cXTable cI (cLs cI rfl) (cLs cI rfl) cI).enc v2))] (by kernel_rfl) <| xn <| wpC_seq <| drg_s <| pst rfl <| ldb rfl rfl rfl rfl ⟨rfl, bndp h fun x35 e36 h => pst rfl <| o_call (a1 (c := (cXGeo (cLs cI rfl))) (tXGeo (tLs tK)) rfl a0) (con_laws_toGeo e36) (.inl (so1 (sXGeo (sLo sK)) so0)) ⟨rfl, pst rfl <| mvd rfl rfl ⟨rfl, bndp h fun x37 e38 h => pst rfl <| o_call (a1 (c := (cLs (cXVariable cS cI) rfl)) (tLs (tXVariable tS tK)) rfl a0) (con_laws_toVariableS e38) (.inl (so1 (sLo (sXVariable sS sK)) so0)) ⟨rfl, pst rfl <| ldb rfl rfl rfl rfl ⟨rfl, bndp h fun x39 e40 h => pst rfl <| o_call (a1 (c := (cXTable cI (cLs cI rfl) (cLs cI rfl) cI)) (tXTable tK (tLs tK) (tLs tK) tK) rfl a0) (con_laws_toTable e40) (.inl (so1 (sXTable sK (sLo sK) (sLo sK) sK) so0)) ⟨rfl, pst rfl <| mvd rfl rfl ⟨rfl, bndp h fun x41 e42 h => pst rfl <| o_call (a1 (c := (cLs (cXRecord cI cI (cLs cI rfl)) rfl)) (tLs (tXRecord tK tK (tLs tK))) rfl a0) (con_laws_toRecordS e42) (.inl (so1 (sLo (sXRecord sK sK (sLo sK))) so0)) ⟨rfl, pst rfl <| mvd rfl rfl ⟨rfl, bndp h fun x43 e44 h => pst rfl <| o_call (a1 (c := (cXGeo (cLo cI))) (tXGeo (tLo tK)) rfl (a1 (c := (cLo (cXVariable cS cI))) (tLo (tXVariable tS tK)) rfl (a1 (c := (cXTable cI (cLo cI) (cLo cI) cI)) (tXTable tK (tLo tK) (tLo tK) tK) rfl (a1 (c := (cLo (cXRecord cI cI (cLo cI)))) (tLo (tXRecord tK tK (tLo tK))) rfl (a1 (c := cI) tK rfl a0))))) (con_spec_RecordsIn e44) (.inl (so1 (sLo sK) (so1 sB so0))) ⟨rfl, preN <| gr_s [(1, .d ((cLs (cXVariable cS cI) rfl).enc v1)), (3, .d ((cLs (cXRecord cI cI (cLs cI rfl)) rfl).enc v3)), (4, .d (cI.enc v4)), (5, .box ((cXGeo (cLs cI rfl)).enc v0)), (7, .box ((cXTable cI (cLs cI rfl) (cLs cI rfl) cI).enc v2))] [([false, false, false, false, false], [(12, .un), (13, .un), (45, .un), (55, .tup [some ((cLo cI).enc x43.1), some (cB.enc x43.2)]), (56, .un), (57, .un)]),
     ([true, false, false, false, false], [(12, .un), (13, .un), (45, .tup [some ((cLo cI).enc x43.1), some (cB.enc x43.2)]), (55, .un), (56, .un), (57, .un)]),
     ([true, true, false, false, false], [(12, .un), (13, .un), (45, .tup [none, some (cB.enc x43.2)]), (55, .un), (56, .d ((cLo cI).enc x43.1)), (57, .un)]),
     ([true, false, true, false, false], [(12, .un), (13, .un), (45, .tup [some ((cLo cI).enc x43.1), none]), (55, .un), (56, .un), (57, .d (cB.enc x43.2))]),
     ([true, true, true, false, false], [(12, .un), (13, .un), (45, .tup [none, none]), (55, .un), (56, .d ((cLo cI).enc x43.1)), (57, .d (cB.enc x43.2))]),
     ([true, true, false, true, false], [(12, .d ((cLo cI).enc x43.1)), (13, .un), (45, .tup [none, some (cB.enc x43.2)]), (55, .un), (56, .un), (57, .un)]),
     ([true, true, true, true, false], [(12, .d ((cLo cI).enc x43.1)), (13, .un), (45, .tup [none, none]), (55, .un), (56, .un), (57, .d (cB.enc x43.2))]),
     ([true, true, true, true, true], [(12, .d ((cLo cI).enc x43.1)), (13, .d (cB.enc x43.2)), (45, .tup [none, none]), (55, .un), (56, .un), (57, .d (cB.enc x43.2))])] [(1, .d ((cLs (cXVariable cS cI) rfl).enc v1)), (3, .d ((cLs (cXRecord cI cI (cLs cI rfl)) rfl).enc v3)), (4, .d (cI.enc v4)), (5, .box ((cXGeo (cLs cI rfl)).enc v0)), (7, .box ((cXTable cI (cLs cI rfl) (cLs cI rfl) cI).enc v2)), (12, .d ((cLo cI).enc x43.1)), (13, .d (cB.enc x43.2))] [([false, false, false, false, false], [])] (by kernel_rfl) (sa1 rfl (by kernel_rfl) <| sa0) rfl
    (ob1 rfl rfl rfl (x_mvt rfl <| obN (by kernel_rfl)) <|
    ob1 rfl rfl rfl (x_ext rfl rfl <| obN (by kernel_rfl)) <|
    ob1 rfl rfl rfl (x_ext rfl rfl <| obN (by kernel_rfl)) <|
    ob1 rfl rfl rfl (x_ext rfl rfl <| obN (by kernel_rfl)) <|
    ob1 rfl rfl rfl (x_asg (so rfl rfl) <| obN (by kernel_rfl)) <|
    ob1 rfl rfl rfl (x_ext rfl rfl <| obN (by kernel_rfl)) <|
    ob1 rfl rfl rfl (x_asg (so rfl rfl) <| obN (by kernel_rfl)) <|
    ob1 rfl rfl rfl (x_ext rfl rfl <| obN (by kernel_rfl)) <|
    ob1 rfl rfl rfl (x_asg (ss rfl rfl) <| obN (by kernel_rfl)) <|
    ob0)
    (by kernel_rfl) <|
    xn <| wpC_seq <| reg_s <| st rfl <| ldb rfl rfl rfl rfl <| bnd h fun x47 e48 h => st rfl <| o_call (a1 (c := (cXGeo (cLs cI rfl))) (tXGeo (tLs tK)) rfl a0) (con_laws_toGeo e48) (.inl (so1 (sXGeo (sLo sK)) so0)) <| x_all (cXGeo (cLo cI)) (⟨([] : List Int)⟩ : XGeo) rfl <| x_stb (so rfl rfl) rfl (Cd.h_sz _ _) rfl <| seqN [(1, .d ((cLs (cXVariable cS cI) rfl).enc v1)), (3, .d ((cLs (cXRecord cI cI (cLs cI rfl)) rfl).enc v3)), (4, .d (cI.enc v4)), (5, .box ((cXGeo (cLs cI rfl)).enc v0)), (7, .box ((cXTable cI (cLs cI rfl) (cLs cI rfl) cI).enc v2)), (12, .d ((cLo cI).enc x43.1)), (13, .d (cB.enc x43.2)), (14, .box ((cXGeo (cLo cI)).enc x47))] (by kernel_rfl) <|
    xn <| wpC_seq <| reg_s <| st rfl <| mvd rfl rfl <| bnd h fun x51 e52 h => st rfl <| o_call (a1 (c := (cLs (cXVariable cS cI) rfl)) (tLs (tXVariable tS tK)) rfl a0) (con_laws_toVariableS e52) (.inl (so1 (sLo (sXVariable sS sK)) so0)) <| x_asg (so rfl rfl) <| seqN [(1, .d ((cLs (cXVariable cS cI) rfl).enc v1)), (3, .d ((cLs (cXRecord cI cI (cLs cI rfl)) rfl).enc v3)), (4, .d (cI.enc v4)), (5, .box ((cXGeo (cLs cI rfl)).enc v0)), (7, .box ((cXTable cI (cLs cI rfl) (cLs cI rfl) cI).enc v2)), (12, .d ((cLo cI).enc x43.1)), (13, .d (cB.enc x43.2)), (14, .box ((cXGeo (cLo cI)).enc x47)), (15, .d ((cLo (cXVariable cS cI)).enc x51))] (by kernel_rfl) <|
    xn <| wpC_seq <| reg_s <| st rfl <| ldb rfl rfl rfl rfl <| bnd h fun x55 e56 h => st rfl <| o_call (a1 (c := (cXTable cI (cLs cI rfl) (cLs cI rfl) cI)) (tXTable tK (tLs tK) (tLs tK) tK) rfl a0) (con_laws_toTable e56) (.inl (so1 (sXTable sK (sLo sK) (sLo sK) sK) so0)) <| x_all (cXTable cI (cLo cI) (cLo cI) cI) (⟨(0 : Int), ([] : List Int), ([] : List Int), (0 : Int)⟩ : XTable) rfl <| x_stb (so rfl rfl) rfl (Cd.h_sz _ _) rfl <| seqN [(1, .d ((cLs (cXVariable cS cI) rfl).enc v1)), (3, .d ((cLs (cXRecord cI cI (cLs cI rfl)) rfl).enc v3)), (4, .d (cI.enc v4)), (5, .box ((cXGeo (cLs cI rfl)).enc v0)), (7, .box ((cXTable cI (cLs cI rfl) (cLs cI rfl) cI).enc v2)), (12, .d ((cLo cI).enc x43.1)), (13, .d (cB.enc x43.2)), (14, .box ((cXGeo (cLo cI)).enc x47)), (15, .d ((cLo (cXVariable cS cI)).enc x51)), (16, .box ((cXTable cI (cLo cI) (cLo cI) cI).enc x55))] (by kernel_rfl) <|
    xn <| wpC_seq <| reg_s <| st rfl <| mvd rfl rfl <| bnd h fun x59 e60 h => st rfl <| o_call (a1 (c := (cLs (cXRecord cI cI (cLs cI rfl)) rfl)) (tLs (tXRecord tK tK (tLs tK))) rfl a0) (con_laws_toRecordS e60) (.inl (so1 (sLo (sXRecord sK sK (sLo sK))) so0)) <| x_asg (so rfl rfl) <| seqN [(1, .d ((cLs (cXVariable cS cI) rfl).enc v1)), (3, .d ((cLs (cXRecord cI cI (cLs cI rfl)) rfl).enc v3)), (4, .d (cI.enc v4)), (5, .box ((cXGeo (cLs cI rfl)).enc v0)), (7, .box ((cXTable cI (cLs cI rfl) (cLs cI rfl) cI).enc v2)), (12, .d ((cLo cI).enc x43.1)), (13, .d (cB.enc x43.2)), (14, .box ((cXGeo (cLo cI)).enc x47)), (15, .d ((cLo (cXVariable cS cI)).enc x51)), (16, .box ((cXTable cI (cLo cI) (cLo cI) cI).enc x55)), (17, .d ((cLo (cXRecord cI cI (cLo cI))).enc x59))] (by kernel_rfl) <|
    xn <| wpC_seq <| reg_s <| st rfl <| ldbo rfl rfl rfl rfl <| st rfl <| mvo rfl rfl <| st rfl <| ldbo rfl rfl rfl rfl <| st rfl <| mvo rfl rfl <| st rfl <| mvd rfl rfl <| bnd h fun x63 e64 h => st rfl <| o_call (a1 (c := (cXGeo (cLo cI))) (tXGeo (tLo tK)) rfl (a1 (c := (cLo (cXVariable cS cI))) (tLo (tXVariable tS tK)) rfl (a1 (c := (cXTable cI (cLo cI) (cLo cI) cI)) (tXTable tK (tLo tK) (tLo tK) tK) rfl (a1 (c := (cLo (cXRecord cI cI (cLo cI)))) (tLo (tXRecord tK tK (tLo tK))) rfl (a1 (c := cI) tK rfl a0))))) (con_impl_RecordsIn e64) (.inl (so1 (sLo sK) (so1 sB so0))) <| x_mvt rfl <| x_ext rfl rfl <| x_ext rfl rfl <| x_asg (so rfl rfl) <| x_asg (ss rfl rfl) <| seqN [(1, .d ((cLs (cXVariable cS cI) rfl).enc v1)), (3, .d ((cLs (cXRecord cI cI (cLs cI rfl)) rfl).enc v3)), (4, .d (cI.enc v4)), (5, .box ((cXGeo (cLs cI rfl)).enc v0)), (7, .box ((cXTable cI (cLs cI rfl) (cLs cI rfl) cI).enc v2)), (12, .d ((cLo cI).enc x43.1)), (13, .d (cB.enc x43.2)), (14, .box ((cXGeo (cLo cI)).enc x47)), (15, .d ((cLo (cXVariable cS cI)).enc x51)), (16, .box ((cXTable cI (cLo cI) (cLo cI) cI).enc x55)), (17, .d ((cLo (cXRecord cI cI (cLo cI))).enc x59)), (18, .d ((cLo cI).enc x63.1)), (19, .d (cB.enc x63.2))] (by kernel_rfl) <|
    xn <| wpC_seq <| wpC_kp <| wpC_seq <| reg_s <| st rfl <| mvo rfl rfl <| st rfl <| mvo rfl rfl <| bnd h fun x75 e76 h => st rfl <| o_call (a1 (c := (cLo cI)) (tLo tK) rfl (a1 (c := (cLo cI)) (tLo tK) rfl a0)) (con_laws_eqIntS e76) (.inl (so1 sB so0)) <| st rfl <| o_nt rfl <| st rfl <| mvd rfl rfl <| ite_k h (fun b77 h => gf rfl b77 <| gf rfl b77 <| gf rfl b77 <| st rfl <| pick1 rfl b77 (cd := cB) (v := true) rfl rfl <| seqN [(1, .d ((cLs (cXVariable cS cI) rfl).enc v1)), (3, .d ((cLs (cXRecord cI cI (cLs cI rfl)) rfl).enc v3)), (4, .d (cI.enc v4)), (5, .box ((cXGeo (cLs cI rfl)).enc v0)), (7, .box ((cXTable cI (cLs cI rfl) (cLs cI rfl) cI).enc v2)), (12, .d ((cLo cI).enc x43.1)), (13, .d (cB.enc x43.2)), (14, .box ((cXGeo (cLo cI)).enc x47)), (15, .d ((cLo (cXVariable cS cI)).enc x51)), (16, .box ((cXTable cI (cLo cI) (cLo cI) cI).enc x55)), (17, .d ((cLo (cXRecord cI cI (cLo cI))).enc x59)), (18, .d ((cLo cI).enc x63.1)), (19, .d (cB.enc x63.2)), (83, .d (cB.enc true))] (by kernel_rfl) <|
    xn <| cnd1 rfl rfl <| wpC_seq <| reg_s <| x_asg (sc cB false rfl) <| seqN [(10, .d (cB.enc false))] (by kernel_rfl) <|
    xn <| wpC_ret <| rt <| rt <| re <| fin h (r1 (ss rfl rfl) <| r0) rfl)
    (fun b77 h => gt' rfl b77 <| st rfl <| mvd rfl rfl <| gt' rfl b77 <| st rfl <| mvd rfl rfl <| gt' rfl b77 <| st rfl <| eqb1 rfl rfl <| st rfl <| pick0 rfl b77 (cd := cB) (v := (x63.2 != x43.2)) rfl rfl <| seqN [(1, .d ((cLs (cXVariable cS cI) rfl).enc v1)), (3, .d ((cLs (cXRecord cI cI (cLs cI rfl)) rfl).enc v3)), (4, .d (cI.enc v4)), (5, .box ((cXGeo (cLs cI rfl)).enc v0)), (7, .box ((cXTable cI (cLs cI rfl) (cLs cI rfl) cI).enc v2)), (12, .d ((cLo cI).enc x43.1)), (13, .d (cB.enc x43.2)), (14, .box ((cXGeo (cLo cI)).enc x47)), (15, .d ((cLo (cXVariable cS cI)).enc x51)), (16, .box ((cXTable cI (cLo cI) (cLo cI) cI).enc x55)), (17, .d ((cLo (cXRecord cI cI (cLo cI))).enc x59)), (18, .d ((cLo cI).enc x63.1)), (19, .d (cB.enc x63.2)), (83, .d (cB.enc (x63.2 != x43.2)))] (by kernel_rfl) <|
    xn <| cnd rfl h (fun b78 h => wpC_seq <| reg_s <| x_asg (sc cB false rfl) <| seqN [(10, .d (cB.enc false))] (by kernel_rfl) <|
    xn <| wpC_ret <| rt <| rt <| re <| fin h (r1 (ss rfl rfl) <| r0) rfl)
    (fun b78 h => wpC_skip <| kpN [(1, .d ((cLs (cXVariable cS cI) rfl).enc v1)), (3, .d ((cLs (cXRecord cI cI (cLs cI rfl)) rfl).enc v3)), (4, .d (cI.enc v4)), (5, .box ((cXGeo (cLs cI rfl)).enc v0)), (7, .box ((cXTable cI (cLs cI rfl) (cLs cI rfl) cI).enc v2)), (12, .d ((cLo cI).enc x43.1)), (13, .d (cB.enc x43.2)), (14, .box ((cXGeo (cLo cI)).enc x47)), (15, .d ((cLo (cXVariable cS cI)).enc x51)), (16, .box ((cXTable cI (cLo cI) (cLo cI) cI).enc x55)), (17, .d ((cLo (cXRecord cI cI (cLo cI))).enc x59)), (18, .d ((cLo cI).enc x63.1)), (19, .d (cB.enc x63.2))] (by kernel_rfl) <| xn <| wpC_seq <| wpC_kp <| wpC_seq <| drw_s <| pst rfl <| ldbo rfl rfl rfl rfl ⟨rfl, pst rfl <| ldb rfl rfl rfl rfl ⟨rfl, bndp h fun x92 e93 h => pst rfl <| o_call (a1 (c := (cXGeo (cLs cI rfl))) (tXGeo (tLs tK)) rfl a0) (con_laws_toGeo e93) (.inl (so1 (sXGeo (sLo sK)) so0)) ⟨rfl, bndp h fun x94 e95 h => pst rfl <| o_call (a1 (c := (cXGeo (cLo cI))) (tXGeo (tLo tK)) rfl (a1 (c := (cXGeo (cLo cI))) (tXGeo (tLo tK)) rfl a0)) (con_laws_eqGeo e95) (.inl (so1 sB so0)) ⟨rfl, pst rfl <| o_nt rfl ⟨rfl, preN <| seqN [(1, .d ((cLs (cXVariable cS cI) rfl).enc v1)), (3, .d ((cLs (cXRecord cI cI (cLs cI rfl)) rfl).enc v3)), (4, .d (cI.enc v4)), (5, .box ((cXGeo (cLs cI rfl)).enc v0)), (7, .box ((cXTable cI (cLs cI rfl) (cLs cI rfl) cI).enc v2)), (12, .d ((cLo cI).enc x43.1)), (13, .d (cB.enc x43.2)), (14, .box ((cXGeo (cLo cI)).enc x47)), (15, .d ((cLo (cXVariable cS cI)).enc x51)), (16, .box ((cXTable cI (cLo cI) (cLo cI) cI).enc x55)), (17, .d ((cLo (cXRecord cI cI (cLo cI))).enc x59)), (18, .d ((cLo cI).enc x63.1)), (19, .d (cB.enc x63.2)), (88, .d (cB.enc (!x94)))] (by kernel_rfl) <|
    xn <| cnd rfl h (fun b96 h => wpC_seq <| reg_s <| x_asg (sc cB false rfl) <| seqN [(10, .d (cB.enc false))] (by kernel_rfl) <|
    xn <| wpC_ret <| rt <| rt <| re <| fin h (r1 (ss rfl rfl) <| r0) rfl)
    (fun b96 h => wpC_skip <| kpN [(1, .d ((cLs (cXVariable cS cI) rfl).enc v1)), (3, .d ((cLs (cXRecord cI cI (cLs cI rfl)) rfl).enc v3)), (4, .d (cI.enc v4)), (5, .box ((cXGeo (cLs cI rfl)).enc v0)), (7, .box ((cXTable cI (cLs cI rfl) (cLs cI rfl) cI).enc v2)), (12, .d ((cLo cI).enc x43.1)), (13, .d (cB.enc x43.2)), (14, .box ((cXGeo (cLo cI)).enc x47)), (15, .d ((cLo (cXVariable cS cI)).enc x51)), (16, .box ((cXTable cI (cLo cI) (cLo cI) cI).enc x55)), (17, .d ((cLo (cXRecord cI cI (cLo cI))).enc x59)), (18, .d ((cLo cI).enc x63.1)), (19, .d (cB.enc x63.2))] (by kernel_rfl) <| xn <| wpC_seq <| wpC_kp <| wpC_seq <| reg_s <| st rfl <| mvo rfl rfl <| st rfl <| mvd rfl rfl <| bnd h fun x110 e111 h => st rfl <| o_call (a1 (c := (cLs (cXVariable cS cI) rfl)) (tLs (tXVariable tS tK)) rfl a0) (con_laws_toVariableS e111) (.inl (so1 (sLo (sXVariable sS sK)) so0)) <| bnd h fun x112 e113 h => st rfl <| o_call (a1 (c := (cLo (cXVariable cS cI))) (tLo (tXVariable tS tK)) rfl (a1 (c := (cLo (cXVariable cS cI))) (tLo (tXVariable tS tK)) rfl a0)) (con_laws_eqVariableS e113) (.inl (so1 sB so0)) <| st rfl <| o_nt rfl <| seqN [(1, .d ((cLs (cXVariable cS cI) rfl).enc v1)), (3, .d ((cLs (cXRecord cI cI (cLs cI rfl)) rfl).enc v3)), (4, .d (cI.enc v4)), (5, .box ((cXGeo (cLs cI rfl)).enc v0)), (7, .box ((cXTable cI (cLs cI rfl) (cLs cI rfl) cI).enc v2)), (12, .d ((cLo cI).enc x43.1)), (13, .d (cB.enc x43.2)), (14, .box ((cXGeo (cLo cI)).enc x47)), (15, .d ((cLo (cXVariable cS cI)).enc x51)), (16, .box ((cXTable cI (cLo cI) (cLo cI) cI).enc x55)), (17, .d ((cLo (cXRecord cI cI (cLo cI))).enc x59)), (18, .d ((cLo cI).enc x63.1)), (19, .d (cB.enc x63.2)), (93, .d (cB.enc (!x112)))] (by kernel_rfl) <|
    xn <| cnd rfl h (fun b114 h => wpC_seq <| reg_s <| x_asg (sc cB false rfl) <| seqN [(10, .d (cB.enc false))] (by kernel_rfl) <|
    xn <| wpC_ret <| rt <| rt <| re <| fin h (r1 (ss rfl rfl) <| r0) rfl)
    (fun b114 h => wpC_skip <| kpN [(1, .d ((cLs (cXVariable cS cI) rfl).enc v1)), (3, .d ((cLs (cXRecord cI cI (cLs cI rfl)) rfl).enc v3)), (4, .d (cI.enc v4)), (5, .box ((cXGeo (cLs cI rfl)).enc v0)), (7, .box ((cXTable cI (cLs cI rfl) (cLs cI rfl) cI).enc v2)), (12, .d ((cLo cI).enc x43.1)), (13, .d (cB.enc x43.2)), (14, .box ((cXGeo (cLo cI)).enc x47)), (15, .d ((cLo (cXVariable cS cI)).enc x51)), (16, .box ((cXTable cI (cLo cI) (cLo cI) cI).enc x55)), (17, .d ((cLo (cXRecord cI cI (cLo cI))).enc x59)), (18, .d ((cLo cI).enc x63.1)), (19, .d (cB.enc x63.2))] (by kernel_rfl) <| xn <| wpC_seq <| wpC_kp <| wpC_seq <| drw_s <| pst rfl <| ldbo rfl rfl rfl rfl ⟨rfl, pst rfl <| ldb rfl rfl rfl rfl ⟨rfl, bndp h fun x128 e129 h => pst rfl <| o_call (a1 (c := (cXTable cI (cLs cI rfl) (cLs cI rfl) cI)) (tXTable tK (tLs tK) (tLs tK) tK) rfl a0) (con_laws_toTable e129) (.inl (so1 (sXTable sK (sLo sK) (sLo sK) sK) so0)) ⟨rfl, bndp h fun x130 e131 h => pst rfl <| o_call (a1 (c := (cXTable cI (cLo cI) (cLo cI) cI)) (tXTable tK (tLo tK) (tLo tK) tK) rfl (a1 (c := (cXTable cI (cLo cI) (cLo cI) cI)) (tXTable tK (tLo tK) (tLo tK) tK) rfl a0)) (con_laws_eqTable e131) (.inl (so1 sB so0)) ⟨rfl, pst rfl <| o_nt rfl ⟨rfl, preN <| seqN [(1, .d ((cLs (cXVariable cS cI) rfl).enc v1)), (3, .d ((cLs (cXRecord cI cI (cLs cI rfl)) rfl).enc v3)), (4, .d (cI.enc v4)), (5, .box ((cXGeo (cLs cI rfl)).enc v0)), (7, .box ((cXTable cI (cLs cI rfl) (cLs cI rfl) cI).enc v2)), (12, .d ((cLo cI).enc x43.1)), (13, .d (cB.enc x43.2)), (14, .box ((cXGeo (cLo cI)).enc x47)), (15, .d ((cLo (cXVariable cS cI)).enc x51)), (16, .box ((cXTable cI (cLo cI) (cLo cI) cI).enc x55)), (17, .d ((cLo (cXRecord cI cI (cLo cI))).enc x59)), (18, .d ((cLo cI).enc x63.1)), (19, .d (cB.enc x63.2)), (98, .d (cB.enc (!x130)))] (by kernel_rfl) <|
    xn <| cnd rfl h (fun b132 h => wpC_seq <| reg_s <| x_asg (sc cB false rfl) <| seqN [(10, .d (cB.enc false))] (by kernel_rfl) <|
    xn <| wpC_ret <| rt <| rt <| re <| fin h (r1 (ss rfl rfl) <| r0) rfl)
    (fun b132 h => wpC_skip <| kpN [(1, .d ((cLs (cXVariable cS cI) rfl).enc v1)), (3, .d ((cLs (cXRecord cI cI (cLs cI rfl)) rfl).enc v3)), (4, .d (cI.enc v4)), (5, .box ((cXGeo (cLs cI rfl)).enc v0)), (7, .box ((cXTable cI (cLs cI rfl) (cLs cI rfl) cI).enc v2)), (12, .d ((cLo cI).enc x43.1)), (13, .d (cB.enc x43.2)), (14, .box ((cXGeo (cLo cI)).enc x47)), (15, .d ((cLo (cXVariable cS cI)).enc x51)), (16, .box ((cXTable cI (cLo cI) (cLo cI) cI).enc x55)), (17, .d ((cLo (cXRecord cI cI (cLo cI))).enc x59)), (18, .d ((cLo cI).enc x63.1)), (19, .d (cB.enc x63.2))] (by kernel_rfl) <| xn <| wpC_seq <| wpC_kp <| wpC_seq <| reg_s <| st rfl <| mvo rfl rfl <| st rfl <| mvd rfl rfl <| bnd h fun x146 e147 h => st rfl <| o_call (a1 (c := (cLs (cXRecord cI cI (cLs cI rfl)) rfl)) (tLs (tXRecord tK tK (tLs tK))) rfl a0) (con_laws_toRecordS e147) (.inl (so1 (sLo (sXRecord sK sK (sLo sK))) so0)) <| bnd h fun x148 e149 h => st rfl <| o_call (a1 (c := (cLo (cXRecord cI cI (cLo cI)))) (tLo (tXRecord tK tK (tLo tK))) rfl (a1 (c := (cLo (cXRecord cI cI (cLo cI)))) (tLo (tXRecord tK tK (tLo tK))) rfl a0)) (con_laws_eqRecordS e149) (.inl (so1 sB so0)) <| st rfl <| o_nt rfl <| seqN [(1, .d ((cLs (cXVariable cS cI) rfl).enc v1)), (3, .d ((cLs (cXRecord cI cI (cLs cI rfl)) rfl).enc v3)), (4, .d (cI.enc v4)), (5, .box ((cXGeo (cLs cI rfl)).enc v0)), (7, .box ((cXTable cI (cLs cI rfl) (cLs cI rfl) cI).enc v2)), (12, .d ((cLo cI).enc x43.1)), (13, .d (cB.enc x43.2)), (14, .box ((cXGeo (cLo cI)).enc x47)), (15, .d ((cLo (cXVariable cS cI)).enc x51)), (16, .box ((cXTable cI (cLo cI) (cLo cI) cI).enc x55)), (17, .d ((cLo (cXRecord cI cI (cLo cI))).enc x59)), (18, .d ((cLo cI).enc x63.1)), (19, .d (cB.enc x63.2)), (103, .d (cB.enc (!x148)))] (by kernel_rfl) <|
    xn <| cnd rfl h (fun b150 h => wpC_seq <| reg_s <| x_asg (sc cB false rfl) <| seqN [(10, .d (cB.enc false))] (by kernel_rfl) <|
    xn <| wpC_ret <| rt <| rt <| re <| fin h (r1 (ss rfl rfl) <| r0) rfl)
    (fun b150 h => wpC_skip <| kpN [(1, .d ((cLs (cXVariable cS cI) rfl).enc v1)), (3, .d ((cLs (cXRecord cI cI (cLs cI rfl)) rfl).enc v3)), (4, .d (cI.enc v4)), (5, .box ((cXGeo (cLs cI rfl)).enc v0)), (7, .box ((cXTable cI (cLs cI rfl) (cLs cI rfl) cI).enc v2)), (12, .d ((cLo cI).enc x43.1)), (13, .d (cB.enc x43.2)), (14, .box ((cXGeo (cLo cI)).enc x47)), (15, .d ((cLo (cXVariable cS cI)).enc x51)), (16, .box ((cXTable cI (cLo cI) (cLo cI) cI).enc x55)), (17, .d ((cLo (cXRecord cI cI (cLo cI))).enc x59)), (18, .d ((cLo cI).enc x63.1)), (19, .d (cB.enc x63.2))] (by kernel_rfl) <| xn <| wpC_seq <| reg_s <| x_asg (sc cI (1 : Int) rfl) <| seqN [(1, .d ((cLs (cXVariable cS cI) rfl).enc v1)), (3, .d ((cLs (cXRecord cI cI (cLs cI rfl)) rfl).enc v3)), (4, .d (cI.enc v4)), (5, .box ((cXGeo (cLs cI rfl)).enc v0)), (7, .box ((cXTable cI (cLs cI rfl) (cLs cI rfl) cI).enc v2)), (12, .d ((cLo cI).enc x43.1)), (13, .d (cB.enc x43.2)), (14, .box ((cXGeo (cLo cI)).enc x47)), (15, .d ((cLo (cXVariable cS cI)).enc x51)), (16, .box ((cXTable cI (cLo cI) (cLo cI) cI).enc x55)), (17, .d ((cLo (cXRecord cI cI (cLo cI))).enc x59)), (18, .d ((cLo cI).enc x63.1)), (19, .d (cB.enc x63.2)), (20, .d (cI.enc (1 : Int)))] (by kernel_rfl) <|
    xn <| wpC_seq <| reg_s <| st rfl <| ldbo rfl rfl rfl rfl <| st rfl <| mvd rfl rfl <| bnd h fun x153 e154 h => x_clr (c := (cXGeo (cLo cI))) (c' := (cXGeo (cLo cI))) ((cXGeo (cLo cI)).enc x153.1) (sXGeo (sLo sK)) rfl (a1 (c := cI) tK rfl a0) rfl Ln.nil (con_laws_markGeo e154) rfl rfl (so1 sK so0) <| x_asg (ss rfl rfl) <| seqN [(1, .d ((cLs (cXVariable cS cI) rfl).enc v1)), (3, .d ((cLs (cXRecord cI cI (cLs cI rfl)) rfl).enc v3)), (4, .d (cI.enc v4)), (5, .box ((cXGeo (cLs cI rfl)).enc v0)), (7, .box ((cXTable cI (cLs cI rfl) (cLs cI rfl) cI).enc v2)), (12, .d ((cLo cI).enc x43.1)), (13, .d (cB.enc x43.2)), (15, .d ((cLo (cXVariable cS cI)).enc x51)), (16, .box ((cXTable cI (cLo cI) (cLo cI) cI).enc x55)), (17, .d ((cLo (cXRecord cI cI (cLo cI))).enc x59)), (18, .d ((cLo cI).enc x63.1)), (19, .d (cB.enc x63.2)), (20, .d (cI.enc x153.2))] (by kernel_rfl) <|
    xn <| wpC_seq <| reg_s <| st rfl <| mvo rfl rfl <| st rfl <| mvd rfl rfl <| bnd h fun x157 e158 h => x_clr (c := (cLo (cXVariable cS cI))) (c' := (cLo (cXVariable cS cI))) ((cLo (cXVariable cS cI)).enc x157.1) (sLo (sXVariable sS sK)) rfl (a1 (c := cI) tK rfl a0) rfl Ln.nil (con_laws_markVariableS e158) rfl rfl (so1 sK so0) <| x_asg (ss rfl rfl) <| seqN [(1, .d ((cLs (cXVariable cS cI) rfl).enc v1)), (3, .d ((cLs (cXRecord cI cI (cLs cI rfl)) rfl).enc v3)), (4, .d (cI.enc v4)), (5, .box ((cXGeo (cLs cI rfl)).enc v0)), (7, .box ((cXTable cI (cLs cI rfl) (cLs cI rfl) cI).enc v2)), (12, .d ((cLo cI).enc x43.1)), (13, .d (cB.enc x43.2)), (16, .box ((cXTable cI (cLo cI) (cLo cI) cI).enc x55)), (17, .d ((cLo (cXRecord cI cI (cLo cI))).enc x59)), (18, .d ((cLo cI).enc x63.1)), (19, .d (cB.enc x63.2)), (20, .d (cI.enc x157.2))] (by kernel_rfl) <|
    xn <| wpC_seq <| reg_s <| st rfl <| ldbo rfl rfl rfl rfl <| st rfl <| mvd rfl rfl <| bnd h fun x161 e162 h => x_clr (c := (cXTable cI (cLo cI) (cLo cI) cI)) (c' := (cXTable cI (cLo cI) (cLo cI) cI)) ((cXTable cI (cLo cI) (cLo cI) cI).enc x161.1) (sXTable sK (sLo sK) (sLo sK) sK) rfl (a1 (c := cI) tK rfl a0) rfl Ln.nil (con_laws_markTable e162) rfl rfl (so1 sK so0) <| x_asg (ss rfl rfl) <| seqN [(1, .d ((cLs (cXVariable cS cI) rfl).enc v1)), (3, .d ((cLs (cXRecord cI cI (cLs cI rfl)) rfl).enc v3)), (4, .d (cI.enc v4)), (5, .box ((cXGeo (cLs cI rfl)).enc v0)), (7, .box ((cXTable cI (cLs cI rfl) (cLs cI rfl) cI).enc v2)), (12, .d ((cLo cI).enc x43.1)), (13, .d (cB.enc x43.2)), (17, .d ((cLo (cXRecord cI cI (cLo cI))).enc x59)), (18, .d ((cLo cI).enc x63.1)), (19, .d (cB.enc x63.2)), (20, .d (cI.enc x161.2))] (by kernel_rfl) <|
    xn <| wpC_seq <| reg_s <| st rfl <| mvo rfl rfl <| st rfl <| mvd rfl rfl <| bnd h fun x165 e166 h => x_clr (c := (cLo (cXRecord cI cI (cLo cI)))) (c' := (cLo (cXRecord cI cI (cLo cI)))) ((cLo (cXRecord cI cI (cLo cI))).enc x165.1) (sLo (sXRecord sK sK (sLo sK))) rfl (a1 (c := cI) tK rfl a0) rfl Ln.nil (con_laws_markRecordS e166) rfl rfl (so1 sK so0) <| x_asg (ss rfl rfl) <| seqN [(1, .d ((cLs (cXVariable cS cI) rfl).enc v1)), (3, .d ((cLs (cXRecord cI cI (cLs cI rfl)) rfl).enc v3)), (4, .d (cI.enc v4)), (5, .box ((cXGeo (cLs cI rfl)).enc v0)), (7, .box ((cXTable cI (cLs cI rfl) (cLs cI rfl) cI).enc v2)), (12, .d ((cLo cI).enc x43.1)), (13, .d (cB.enc x43.2)), (18, .d ((cLo cI).enc x63.1)), (19, .d (cB.enc x63.2)), (20, .d (cI.enc x165.2))] (by kernel_rfl) <|
    xn <| wpC_seq <| wpC_kp <| wpC_seq <| reg_s <| st rfl <| mvd rfl rfl <| st rfl <| b_lss (k := .i64) rfl rfl <| st rfl <| mvd rfl rfl <| ite_k h (fun b179 h => gf rfl b179 <| gf rfl b179 <| gf rfl b179 <| gf rfl b179 <| st rfl <| pick1 rfl b179 (cd := cB) (v := true) rfl rfl <| st rfl <| mvd rfl rfl <| gf rfl rfl <| gf rfl rfl <| gf rfl rfl <| st rfl <| pick1 rfl rfl (cd := cB) (v := true) rfl rfl <| seqN [(1, .d ((cLs (cXVariable cS cI) rfl).enc v1)), (3, .d ((cLs (cXRecord cI cI (cLs cI rfl)) rfl).enc v3)), (4, .d (cI.enc v4)), (5, .box ((cXGeo (cLs cI rfl)).enc v0)), (7, .box ((cXTable cI (cLs cI rfl) (cLs cI rfl) cI).enc v2)), (12, .d ((cLo cI).enc x43.1)), (13, .d (cB.enc x43.2)), (18, .d ((cLo cI).enc x63.1)), (128, .d (cB.enc true))] (by kernel_rfl) <|
    xn <| cnd1 rfl rfl <| wpC_seq <| reg_s <| x_asg (sc cB false rfl) <| seqN [(10, .d (cB.enc false))] (by kernel_rfl) <|
    xn <| wpC_ret <| rt <| rt <| re <| fin h (r1 (ss rfl rfl) <| r0) rfl)
    (fun b179 h => gt' rfl b179 <| st rfl <| mvo rfl rfl <| gt' rfl b179 <| st rfl <| mvo rfl rfl <| gt' rfl b179 <| bnd h fun x180 e181 h => st rfl <| o_call (a1 (c := (cLo cI)) (tLo tK) rfl (a1 (c := (cLo cI)) (tLo tK) rfl a0)) (con_laws_eqIntS e181) (.inl (so1 sB so0)) <| gt' rfl b179 <| st rfl <| o_nt rfl <| st rfl <| pick0 rfl b179 (cd := cB) (v := (!x180)) rfl rfl <| st rfl <| mvd rfl rfl <| ite_k h (fun b182 h => gf rfl b182 <| gf rfl b182 <| gf rfl b182 <| st rfl <| pick1 rfl b182 (cd := cB) (v := true) rfl rfl <| seqN [(1, .d ((cLs (cXVariable cS cI) rfl).enc v1)), (3, .d ((cLs (cXRecord cI cI (cLs cI rfl)) rfl).enc v3)), (4, .d (cI.enc v4)), (5, .box ((cXGeo (cLs cI rfl)).enc v0)), (7, .box ((cXTable cI (cLs cI rfl) (cLs cI rfl) cI).enc v2)), (12, .d ((cLo cI).enc x43.1)), (13, .d (cB.enc x43.2)), (18, .d ((cLo cI).enc x63.1)), (128, .d (cB.enc true))] (by kernel_rfl) <|
    xn <| cnd1 rfl rfl <| wpC_seq <| reg_s <| x_asg (sc cB false rfl) <| seqN [(10, .d (cB.enc false))] (by kernel_rfl) <|
    xn <| wpC_ret <| rt <| rt <| re <| fin h (r1 (ss rfl rfl) <| r0) rfl)
    (fun b182 h => gt' rfl b182 <| st rfl <| mvd rfl rfl <| gt' rfl b182 <| st rfl <| mvd rfl rfl <| gt' rfl b182 <| st rfl <| eqb1 rfl rfl <| st rfl <| pick0 rfl b182 (cd := cB) (v := (x63.2 != x43.2)) rfl rfl <| seqN [(1, .d ((cLs (cXVariable cS cI) rfl).enc v1)), (3, .d ((cLs (cXRecord cI cI (cLs cI rfl)) rfl).enc v3)), (4, .d (cI.enc v4)), (5, .box ((cXGeo (cLs cI rfl)).enc v0)), (7, .box ((cXTable cI (cLs cI rfl) (cLs cI rfl) cI).enc v2)), (12, .d ((cLo cI).enc x43.1)), (13, .d (cB.enc x43.2)), (18, .d ((cLo cI).enc x63.1)), (128, .d (cB.enc (x63.2 != x43.2)))] (by kernel_rfl) <|
    xn <| cnd0 rfl b78 <| wpC_skip <| kpN [(1, .d ((cLs (cXVariable cS cI) rfl).enc v1)), (3, .d ((cLs (cXRecord cI cI (cLs cI rfl)) rfl).enc v3)), (4, .d (cI.enc v4)), (5, .box ((cXGeo (cLs cI rfl)).enc v0)), (7, .box ((cXTable cI (cLs cI rfl) (cLs cI rfl) cI).enc v2)), (12, .d ((cLo cI).enc x43.1)), (13, .d (cB.enc x43.2)), (18, .d ((cLo cI).enc x63.1))] (by kernel_rfl) <| xn <| wpC_seq <| reg_s <| x_asg (sc cI (1 : Int) rfl) <| seqN [(1, .d ((cLs (cXVariable cS cI) rfl).enc v1)), (3, .d ((cLs (cXRecord cI cI (cLs cI rfl)) rfl).enc v3)), (4, .d (cI.enc v4)), (5, .box ((cXGeo (cLs cI rfl)).enc v0)), (7, .box ((cXTable cI (cLs cI rfl) (cLs cI rfl) cI).enc v2)), (12, .d ((cLo cI).enc x43.1)), (13, .d (cB.enc x43.2)), (18, .d ((cLo cI).enc x63.1)), (21, .d (cI.enc (1 : Int)))] (by kernel_rfl) <|
    xn <| wpC_seq <| reg_s <| st rfl <| mvo rfl rfl <| st rfl <| mvd rfl rfl <| bnd h fun x185 e186 h => x_clr (c := (cLo cI)) (c' := (cLo cI)) ((cLo cI).enc x185.1) (sLo sK) rfl (a1 (c := cI) tK rfl a0) rfl Ln.nil (con_laws_markIntS e186) rfl rfl (so1 sK so0) <| x_asg (ss rfl rfl) <| seqN [(1, .d ((cLs (cXVariable cS cI) rfl).enc v1)), (3, .d ((cLs (cXRecord cI cI (cLs cI rfl)) rfl).enc v3)), (4, .d (cI.enc v4)), (5, .box ((cXGeo (cLs cI rfl)).enc v0)), (7, .box ((cXTable cI (cLs cI rfl) (cLs cI rfl) cI).enc v2)), (12, .d ((cLo cI).enc x43.1)), (13, .d (cB.enc x43.2)), (18, .d ((cLo cI).enc x185.1)), (21, .d (cI.enc x185.2))] (by kernel_rfl) <|
    xn <| wpC_seq <| reg_s <| x_asg (sc cI (1 : Int) rfl) <| seqN [(1, .d ((cLs (cXVariable cS cI) rfl).enc v1)), (3, .d ((cLs (cXRecord cI cI (cLs cI rfl)) rfl).enc v3)), (4, .d (cI.enc v4)), (5, .box ((cXGeo (cLs cI rfl)).enc v0)), (7, .box ((cXTable cI (cLs cI rfl) (cLs cI rfl) cI).enc v2)), (12, .d ((cLo cI).enc x43.1)), (13, .d (cB.enc x43.2)), (18, .d ((cLo cI).enc x185.1)), (21, .d (cI.enc x185.2)), (22, .d (cI.enc (1 : Int)))] (by kernel_rfl) <|
    xn <| wpC_seq <| reg_s <| st rfl <| mvo rfl rfl <| st rfl <| mvd rfl rfl <| bnd h fun x189 e190 h => st rfl <| o_call (a1 (c := (cLo cI)) (tLo tK) rfl (a1 (c := cI) tK rfl a0)) (con_laws_heldIntS e190) (.inl (so1 sK so0)) <| x_asg (ss rfl rfl) <| seqN [(1, .d ((cLs (cXVariable cS cI) rfl).enc v1)), (3, .d ((cLs (cXRecord cI cI (cLs cI rfl)) rfl).enc v3)), (4, .d (cI.enc v4)), (5, .box ((cXGeo (cLs cI rfl)).enc v0)), (7, .box ((cXTable cI (cLs cI rfl) (cLs cI rfl) cI).enc v2)), (12, .d ((cLo cI).enc x43.1)), (13, .d (cB.enc x43.2)), (18, .d ((cLo cI).enc x185.1)), (21, .d (cI.enc x185.2)), (22, .d (cI.enc x189))] (by kernel_rfl) <|
    xn <| wpC_seq <| wpC_kp <| wpC_seq <| reg_s <| st rfl <| mvd rfl rfl <| st rfl <| b_lss (k := .i64) rfl rfl <| seqN [(1, .d ((cLs (cXVariable cS cI) rfl).enc v1)), (3, .d ((cLs (cXRecord cI cI (cLs cI rfl)) rfl).enc v3)), (4, .d (cI.enc v4)), (5, .box ((cXGeo (cLs cI rfl)).enc v0)), (7, .box ((cXTable cI (cLs cI rfl) (cLs cI rfl) cI).enc v2)), (12, .d ((cLo cI).enc x43.1)), (13, .d (cB.enc x43.2)), (18, .d ((cLo cI).enc x185.1)), (21, .d (cI.enc x185.2)), (22, .d (cI.enc x189)), (136, .d (cB.enc (decide (x189 < (0 : Int)))))] (by kernel_rfl) <|
    xn <| cnd rfl h (fun b192 h => wpC_seq <| reg_s <| x_asg (sc cB false rfl) <| seqN [(10, .d (cB.enc false))] (by kernel_rfl) <|
    xn <| wpC_ret <| rt <| rt <| re <| fin h (r1 (ss rfl rfl) <| r0) rfl)
    (fun b192 h => wpC_skip <| kpN [(1, .d ((cLs (cXVariable cS cI) rfl).enc v1)), (3, .d ((cLs (cXRecord cI cI (cLs cI rfl)) rfl).enc v3)), (4, .d (cI.enc v4)), (5, .box ((cXGeo (cLs cI rfl)).enc v0)), (7, .box ((cXTable cI (cLs cI rfl) (cLs cI rfl) cI).enc v2)), (12, .d ((cLo cI).enc x43.1)), (13, .d (cB.enc x43.2)), (18, .d ((cLo cI).enc x185.1)), (21, .d (cI.enc x185.2)), (22, .d (cI.enc x189))] (by kernel_rfl) <| xn <| wpC_seq <| wpC_kp <| wpC_seq <| reg_s <| st rfl <| mvd rfl rfl <| st rfl <| mvd rfl rfl <| st rfl <| b_neq (k := .i64) rfl rfl <| seqN [(1, .d ((cLs (cXVariable cS cI) rfl).enc v1)), (3, .d ((cLs (cXRecord cI cI (cLs cI rfl)) rfl).enc v3)), (4, .d (cI.enc v4)), (5, .box ((cXGeo (cLs cI rfl)).enc v0)), (7, .box ((cXTable cI (cLs cI rfl) (cLs cI rfl) cI).enc v2)), (12, .d ((cLo cI).enc x43.1)), (13, .d (cB.enc x43.2)), (18, .d ((cLo cI).enc x185.1)), (21, .d (cI.enc x185.2)), (139, .d (cB.enc (decide (x189 ≠ x185.2))))] (by kernel_rfl) <|
    xn <| cnd rfl h (fun b194 h => wpC_seq <| reg_s <| x_asg (sc cB false rfl) <| seqN [(10, .d (cB.enc false))] (by kernel_rfl) <|
    xn <| wpC_ret <| rt <| rt <| re <| fin h (r1 (ss rfl rfl) <| r0) rfl)
    (fun b194 h => wpC_skip <| kpN [(1, .d ((cLs (cXVariable cS cI) rfl).enc v1)), (3, .d ((cLs (cXRecord cI cI (cLs cI rfl)) rfl).enc v3)), (4, .d (cI.enc v4)), (5, .box ((cXGeo (cLs cI rfl)).enc v0)), (7, .box ((cXTable cI (cLs cI rfl) (cLs cI rfl) cI).enc v2)), (12, .d ((cLo cI).enc x43.1)), (13, .d (cB.enc x43.2)), (18, .d ((cLo cI).enc x185.1)), (21, .d (cI.enc x185.2))] (by kernel_rfl) <| xn <| wpC_seq <| drg_s <| pst rfl <| ldb rfl rfl rfl rfl ⟨rfl, bndp h fun x205 e206 h => pst rfl <| o_call (a1 (c := (cXGeo (cLs cI rfl))) (tXGeo (tLs tK)) rfl a0) (con_laws_toGeo e206) (.inl (so1 (sXGeo (sLo sK)) so0)) ⟨rfl, pst rfl <| mvd rfl rfl ⟨rfl, bndp h fun x207 e208 h => pst rfl <| o_call (a1 (c := (cLs (cXVariable cS cI) rfl)) (tLs (tXVariable tS tK)) rfl a0) (con_laws_toVariableS e208) (.inl (so1 (sLo (sXVariable sS sK)) so0)) ⟨rfl, pst rfl <| ldb rfl rfl rfl rfl ⟨rfl, bndp h fun x209 e210 h => pst rfl <| o_call (a1 (c := (cXTable cI (cLs cI rfl) (cLs cI rfl) cI)) (tXTable tK (tLs tK) (tLs tK) tK) rfl a0) (con_laws_toTable e210) (.inl (so1 (sXTable sK (sLo sK) (sLo sK) sK) so0)) ⟨rfl, pst rfl <| mvd rfl rfl ⟨rfl, bndp h fun x211 e212 h => pst rfl <| o_call (a1 (c := (cLs (cXRecord cI cI (cLs cI rfl)) rfl)) (tLs (tXRecord tK tK (tLs tK))) rfl a0) (con_laws_toRecordS e212) (.inl (so1 (sLo (sXRecord sK sK (sLo sK))) so0)) ⟨rfl, pst rfl <| mvd rfl rfl ⟨rfl, bndp h fun x213 e214 h => pst rfl <| o_call (a1 (c := (cXGeo (cLo cI))) (tXGeo (tLo tK)) rfl (a1 (c := (cLo (cXVariable cS cI))) (tLo (tXVariable tS tK)) rfl (a1 (c := (cXTable cI (cLo cI) (cLo cI) cI)) (tXTable tK (tLo tK) (tLo tK) tK) rfl (a1 (c := (cLo (cXRecord cI cI (cLo cI)))) (tLo (tXRecord tK tK (tLo tK))) rfl (a1 (c := cI) tK rfl a0))))) (con_impl_RecordsIn e214) (.inl (so1 (sLo sK) (so1 sB so0))) ⟨rfl, preN <| gr_s [(12, .d ((cLo cI).enc x43.1)), (13, .d (cB.enc x43.2)), (18, .d ((cLo cI).enc x185.1)), (21, .d (cI.enc x185.2))] [([false, false, false, false, false], [(23, .un), (24, .un), (140, .un), (150, .tup [some ((cLo cI).enc x213.1), some (cB.enc x213.2)]), (151, .un), (152, .un)]),
     ([true, false, false, false, false], [(23, .un), (24, .un), (140, .tup [some ((cLo cI).enc x213.1), some (cB.enc x213.2)]), (150, .un), (151, .un), (152, .un)]),
     ([true, true, false, false, false], [(23, .un), (24, .un), (140, .tup [none, some (cB.enc x213.2)]), (150, .un), (151, .d ((cLo cI).enc x213.1)), (152, .un)]),
     ([true, false, true, false, false], [(23, .un), (24, .un), (140, .tup [some ((cLo cI).enc x213.1), none]), (150, .un), (151, .un), (152, .d (cB.enc x213.2))]),
     ([true, true, true, false, false], [(23, .un), (24, .un), (140, .tup [none, none]), (150, .un), (151, .d ((cLo cI).enc x213.1)), (152, .d (cB.enc x213.2))]),
     ([true, true, false, true, false], [(23, .d ((cLo cI).enc x213.1)), (24, .un), (140, .tup [none, some (cB.enc x213.2)]), (150, .un), (151, .un), (152, .un)]),
     ([true, true, true, true, false], [(23, .d ((cLo cI).enc x213.1)), (24, .un), (140, .tup [none, none]), (150, .un), (151, .un), (152, .d (cB.enc x213.2))]),
     ([true, true, true, true, true], [(23, .d ((cLo cI).enc x213.1)), (24, .d (cB.enc x213.2)), (140, .tup [none, none]), (150, .un), (151, .un), (152, .d (cB.enc x213.2))])] [(12, .d ((cLo cI).enc x43.1)), (13, .d (cB.enc x43.2)), (18, .d ((cLo cI).enc x185.1)), (21, .d (cI.enc x185.2)), (23, .d ((cLo cI).enc x213.1)), (24, .d (cB.enc x213.2))] [([false, false, false, false, false], [])] (by kernel_rfl) (sa1 rfl (by kernel_rfl) <| sa0) rfl
    (ob1 rfl rfl rfl (x_mvt rfl <| obN (by kernel_rfl)) <|
    ob1 rfl rfl rfl (x_ext rfl rfl <| obN (by kernel_rfl)) <|
    ob1 rfl rfl rfl (x_ext rfl rfl <| obN (by kernel_rfl)) <|
    ob1 rfl rfl rfl (x_ext rfl rfl <| obN (by kernel_rfl)) <|
    ob1 rfl rfl rfl (x_asg (so rfl rfl) <| obN (by kernel_rfl)) <|
    ob1 rfl rfl rfl (x_ext rfl rfl <| obN (by kernel_rfl)) <|
    ob1 rfl rfl rfl (x_asg (so rfl rfl) <| obN (by kernel_rfl)) <|
    ob1 rfl rfl rfl (x_ext rfl rfl <| obN (by kernel_rfl)) <|
    ob1 rfl rfl rfl (x_asg (ss rfl rfl) <| obN (by kernel_rfl)) <|
    ob0)
    (by kernel_rfl) <|
    xn <| wpC_seq <| wpC_kp <| wpC_seq <| reg_s <| st rfl <| mvo rfl rfl <| st rfl <| mvo rfl rfl <| bnd h fun x225 e226 h => st rfl <| o_call (a1 (c := (cLo cI)) (tLo tK) rfl (a1 (c := (cLo cI)) (tLo tK) rfl a0)) (con_laws_eqIntS e226) (.inl (so1 sB so0)) <| st rfl <| o_nt rfl <| st rfl <| mvd rfl rfl <| ite_k h (fun b227 h => gf rfl b227 <| gf rfl b227 <| gf rfl b227 <| st rfl <| pick1 rfl b227 (cd := cB) (v := true) rfl rfl <| seqN [(18, .d ((cLo cI).enc x185.1)), (21, .d (cI.enc x185.2)), (161, .d (cB.enc true))] (by kernel_rfl) <|
    xn <| cnd1 rfl rfl <| wpC_seq <| reg_s <| x_asg (sc cB false rfl) <| seqN [(10, .d (cB.enc false))] (by kernel_rfl) <|
    xn <| wpC_ret <| rt <| rt <| re <| fin h (r1 (ss rfl rfl) <| r0) rfl)
    (fun b227 h => gt' rfl b227 <| st rfl <| mvd rfl rfl <| gt' rfl b227 <| st rfl <| mvd rfl rfl <| gt' rfl b227 <| st rfl <| eqb1 rfl rfl <| st rfl <| pick0 rfl b227 (cd := cB) (v := (x213.2 != x43.2)) rfl rfl <| seqN [(18, .d ((cLo cI).enc x185.1)), (21, .d (cI.enc x185.2)), (161, .d (cB.enc (x213.2 != x43.2)))] (by kernel_rfl) <|
    xn <| cnd rfl h (fun b228 h => wpC_seq <| reg_s <| x_asg (sc cB false rfl) <| seqN [(10, .d (cB.enc false))] (by kernel_rfl) <|
    xn <| wpC_ret <| rt <| rt <| re <| fin h (r1 (ss rfl rfl) <| r0) rfl)
    (fun b228 h => wpC_skip <| kpN [(18, .d ((cLo cI).enc x185.1)), (21, .d (cI.enc x185.2))] (by kernel_rfl) <| xn <| wpC_seq <| reg_s <| x_asg (sc cI (1 : Int) rfl) <| seqN [(18, .d ((cLo cI).enc x185.1)), (21, .d (cI.enc x185.2)), (22, .d (cI.enc (1 : Int)))] (by kernel_rfl) <|
    xn <| wpC_seq <| reg_s <| st rfl <| mvo rfl rfl <| st rfl <| mvd rfl rfl <| bnd h fun x231 e232 h => st rfl <| o_call (a1 (c := (cLo cI)) (tLo tK) rfl (a1 (c := cI) tK rfl a0)) (con_laws_heldIntS e232) (.inl (so1 sK so0)) <| x_asg (ss rfl rfl) <| seqN [(21, .d (cI.enc x185.2)), (22, .d (cI.enc x231))] (by kernel_rfl) <|
    xn <| wpC_seq <| wpC_kp <| wpC_seq <| reg_s <| st rfl <| mvd rfl rfl <| st rfl <| b_lss (k := .i64) rfl rfl <| seqN [(21, .d (cI.enc x185.2)), (22, .d (cI.enc x231)), (166, .d (cB.enc (decide (x231 < (0 : Int)))))] (by kernel_rfl) <|
    xn <| cnd rfl h (fun b234 h => wpC_seq <| reg_s <| x_asg (sc cB false rfl) <| seqN [(10, .d (cB.enc false))] (by kernel_rfl) <|
    xn <| wpC_ret <| rt <| rt <| re <| fin h (r1 (ss rfl rfl) <| r0) rfl)
    (fun b234 h => wpC_skip <| kpN [(21, .d (cI.enc x185.2)), (22, .d (cI.enc x231))] (by kernel_rfl) <| xn <| wpC_seq <| wpC_kp <| wpC_seq <| reg_s <| st rfl <| mvd rfl rfl <| st rfl <| mvd rfl rfl <| st rfl <| b_neq (k := .i64) rfl rfl <| seqN [(169, .d (cB.enc (decide (x231 ≠ x185.2))))] (by kernel_rfl) <|
    xn <| cnd rfl h (fun b236 h => wpC_seq <| reg_s <| x_asg (sc cB false rfl) <| seqN [(10, .d (cB.enc false))] (by kernel_rfl) <|
    xn <| wpC_ret <| rt <| rt <| re <| fin h (r1 (ss rfl rfl) <| r0) rfl)
    (fun b236 h => wpC_skip <| kpN [] (by kernel_rfl) <| xn <| wpC_seq <| reg_s <| x_asg (sc cB true rfl) <| seqN [(10, .d (cB.enc true))] (by kernel_rfl) <|
    xn <| wpC_ret <| re <| fin h (r1 (ss rfl rfl) <| r0) rfl))))⟩⟩⟩⟩⟩⟩⟩⟩⟩⟩))))))⟩⟩⟩⟩⟩))⟩⟩⟩⟩⟩))⟩⟩⟩⟩⟩⟩⟩⟩⟩⟩))))
end AS.W
