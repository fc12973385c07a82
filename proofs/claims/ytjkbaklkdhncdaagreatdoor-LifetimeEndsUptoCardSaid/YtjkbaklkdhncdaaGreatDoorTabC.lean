import Derived.Test.YtjkbaklkdhncdaaGreatDoorEvD
set_option linter.all false
section
set_option maxRecDepth 100000
namespace Go.Tev
def cf6M0 : List Bool := [false, false, true, false, false, true, false, false, false, true, true, false, false, false, false, false, false, false, false, false, false, false, false, false, false, false, false, false, false, false, false, false, false, false, false, false, false, false, false, false, false, false, false, false, false, false, false, true, true, true, false, false, false, false, false, false, false, false, false, false, false, false, false, false, false, false, false, false, false, false, false, false, false, false, false, false, false, false, false, false, false, false, false, false, false, false, false, false, false, false, false, false, false]
def cf6E0 (t2 t5 t9 t10 t47 t48 t49 : AV) : List AV := [.top, .top, t2, .top, .top, t5, .top, .top, .top, t9, t10, .top, .top, .top, .top, .top, .top, .top, .top, .top, .top, .top, .top, .top, .top, .top, .top, .top, .top, .top, .top, .top, .top, .top, .top, .top, .top, .top, .top, .top, .top, .top, .top, .top, .top, .top, .top, t47, t48, t49, .top, .top, .top, .top, .top, .top, .top, .top, .top, .top, .top, .top, .top, .top, .top, .top, .top, .top, .top, .top, .top, .top, .top, .top, .top, .top, .top, .top, .top, .top, .top, .top, .top, .top, .top, .top, .top, .top, .top, .top, .top, .top, .top]
def cf6L0 : C :=
 (.seq (.reg [⟨(some 50), (.bin .lss), [.t 49, .t 48], none, 0, 0⟩] false)
 (.seq (.cond (.t 50) .skip
  (.exit 0))
 (.seq (.block 1 (.seq (.reg [⟨(some 51), .mov, [.t 49], none, 0, 0⟩,
    ⟨(some 52), (.iad 1 false none), [.t 47, .t 49], none, 0, 0⟩,
    ⟨(some 53), (.load 1 false), [.t 52], none, 0, 0⟩,
    ⟨(some 11), .mov, [.t 51], none, 0, 0⟩,
    ⟨(some 12), .mov, [.t 53], none, 0, 0⟩] false)
  (.seq (.seq (.reg [⟨(some 54), .mov, [.t 11], none, 0, 0⟩,
    ⟨(some 55), (.fad 2 1 false), [.t 2], none, 0, 0⟩,
    ⟨(some 56), (.load 1 false), [.t 55], none, 0, 0⟩,
    ⟨(some 57), (.bin .lss), [.t 54, .t 56], none, 0, 0⟩] false)
  (.cond (.t 57) (.reg [⟨(some 58), .mov, [.t 9], none, 0, 0⟩,
     ⟨(some 59), .mov, [.t 12], none, 0, 0⟩,
     ⟨(some 60), (.bin .add), [.t 58, .t 59], none, 0, 0⟩,
     ⟨(some 9), .mov, [.t 60], none, 0, 0⟩] false)
   .skip))
  (.seq (.reg [⟨(some 61), (.fad 5 1 false), [.t 2], none, 0, 0⟩,
    ⟨(some 62), (.load 1 false), [.t 61], none, 0, 0⟩,
    ⟨(some 63), .mov, [.t 11], none, 0, 0⟩,
    ⟨(some 64), (.call 23 false false), [.t 62, .t 63], none, 0, 25⟩] false)
  (.cond (.t 64) (.reg [⟨(some 65), .mov, [.t 10], none, 0, 0⟩,
     ⟨(some 66), .mov, [.t 12], none, 0, 0⟩,
     ⟨(some 67), (.bin .add), [.t 65, .t 66], none, 0, 0⟩,
     ⟨(some 10), .mov, [.t 67], none, 0, 0⟩] false)
   .skip)))))
 (.reg [⟨(some 68), (.bin .add), [.t 49, .c (.int .i64 1)], none, 0, 0⟩,
   ⟨(some 49), .mov, [.t 68], none, 0, 0⟩] false))))
def cf6 : CF := ⟨2, 93, [.inl 4],
 (.seq (.reg [⟨(some 2), .box, [.t 0], none, 0, 1⟩,
   ⟨(some 4), .mov, [.c (.bool false)], none, 0, 0⟩] false)
 (.seq (.seq (.reg [⟨(some 13), (.call 7 false false), [], none, 0, 5⟩,
   ⟨(some 14), (.un .not), [.t 13], none, 0, 0⟩,
   ⟨(some 15), .mov, [.t 14], none, 0, 0⟩,
   ⟨(some 16), (.load 6 true), [.t 2], (some (15, false)), 0, 0⟩,
   ⟨(some 17), (.call 8 false false), [.t 16], (some (15, false)), 0, 9⟩,
   ⟨(some 18), (.un .not), [.t 17], (some (15, false)), 0, 0⟩,
   ⟨(some 19), .pick, [.t 15, .c (.bool true), .t 18], none, 0, 0⟩,
   ⟨(some 20), .mov, [.t 19], none, 0, 0⟩,
   ⟨(some 21), .mov, [.t 1], (some (20, false)), 0, 0⟩,
   ⟨(some 22), (.len 1), [.t 21], (some (20, false)), 0, 0⟩,
   ⟨(some 23), (.bin .gtr), [.t 22, .c (.int .i64 13)], (some (20, false)), 0, 0⟩,
   ⟨(some 24), .pick, [.t 20, .c (.bool true), .t 23], none, 0, 0⟩] false)
 (.cond (.t 24) (.seq (.reg [⟨(some 25), (.call 7 false false), [], none, 0, 13⟩,
    ⟨(some 4), .mov, [.t 25], none, 0, 0⟩] false)
  .ret)
  .skip))
 (.seq (.reg [⟨(some 27), (.load 6 true), [.t 2], none, 0, 0⟩,
   ⟨(some 28), .mov, [.t 1], none, 0, 0⟩,
   ⟨(some 29), (.call 18 false false), [.t 27, .t 28], none, 0, 17⟩,
   ⟨(some 26), .mov, [.t 29], none, 0, 0⟩,
   ⟨(some 30), (.ext 0), [.t 26], none, 0, 0⟩,
   ⟨(some 31), (.ext 1), [.t 26], none, 0, 0⟩,
   ⟨(some 5), .mov, [.t 30], none, 0, 0⟩,
   ⟨(some 6), .mov, [.t 31], none, 0, 0⟩] false)
 (.seq (.reg [⟨(some 33), (.load 6 true), [.t 2], none, 0, 0⟩,
   ⟨(some 34), .mov, [.t 1], none, 0, 0⟩,
   ⟨(some 35), (.call 16 false false), [.t 33, .t 34], none, 0, 21⟩,
   ⟨(some 32), .mov, [.t 35], none, 0, 0⟩,
   ⟨(some 36), (.ext 0), [.t 32], none, 0, 0⟩,
   ⟨(some 37), (.ext 1), [.t 32], none, 0, 0⟩,
   ⟨(some 7), .mov, [.t 36], none, 0, 0⟩,
   ⟨(some 8), .mov, [.t 37], none, 0, 0⟩] false)
 (.seq (.seq (.reg [⟨(some 38), .mov, [.t 6], none, 0, 0⟩,
   ⟨(some 39), (.bin .neq), [.t 38, .c (.int .i64 0)], none, 0, 0⟩,
   ⟨(some 40), .mov, [.t 39], none, 0, 0⟩,
   ⟨(some 41), .mov, [.t 8], (some (40, false)), 0, 0⟩,
   ⟨(some 42), (.bin .neq), [.t 41, .c (.int .i64 0)], (some (40, false)), 0, 0⟩,
   ⟨(some 43), .pick, [.t 40, .c (.bool true), .t 42], none, 0, 0⟩] false)
 (.cond (.t 43) (.seq (.reg [⟨(some 44), .mov, [.t 6], none, 0, 0⟩,
    ⟨(some 45), .mov, [.t 8], none, 0, 0⟩,
    ⟨(some 46), (.bin .eql), [.t 44, .t 45], none, 0, 0⟩,
    ⟨(some 4), .mov, [.t 46], none, 0, 0⟩] false)
  .ret)
  .skip))
 (.seq (.reg [⟨(some 9), .mov, [.c (.int .i64 0)], none, 0, 0⟩,
   ⟨(some 10), .mov, [.c (.int .i64 0)], none, 0, 0⟩] false)
 (.seq (.seq (.reg [⟨(some 47), .mov, [.t 7], none, 0, 0⟩,
   ⟨(some 48), (.len 1), [.t 47], none, 0, 0⟩,
   ⟨(some 49), .mov, [.c (.int .i64 0)], none, 0, 0⟩] false)
 (.block 0 (.loop cf6L0 cf6M0)))
 (.seq (.reg [⟨(some 69), .mov, [.t 5], none, 0, 0⟩,
   ⟨(some 70), (.len 1), [.t 69], none, 0, 0⟩,
   ⟨(some 71), (.fad 4 1 false), [.t 2], none, 0, 0⟩,
   ⟨(some 72), (.load 1 false), [.t 71], none, 0, 0⟩,
   ⟨(some 73), (.len 1), [.t 72], none, 0, 0⟩,
   ⟨(some 74), (.bin .add), [.t 73, .c (.int .i64 2)], none, 0, 0⟩,
   ⟨(some 75), (.bin .eql), [.t 70, .t 74], none, 0, 0⟩,
   ⟨(some 76), .mov, [.t 75], none, 0, 0⟩,
   ⟨(some 77), .mov, [.t 5], (some (76, true)), 0, 0⟩,
   ⟨(some 78), (.iad 1 false none), [.t 77, .c (.int .i64 0)], (some (76, true)), 0, 0⟩,
   ⟨(some 79), (.load 1 false), [.t 78], (some (76, true)), 0, 0⟩,
   ⟨(some 80), .mov, [.t 9], (some (76, true)), 0, 0⟩,
   ⟨(some 81), (.bin .eql), [.t 79, .t 80], (some (76, true)), 0, 0⟩,
   ⟨(some 82), .pick, [.t 76, .t 81, .c (.bool false)], none, 0, 0⟩,
   ⟨(some 83), .mov, [.t 82], none, 0, 0⟩,
   ⟨(some 84), .mov, [.t 5], (some (83, true)), 0, 0⟩,
   ⟨(some 85), .mov, [.t 5], (some (83, true)), 0, 0⟩,
   ⟨(some 86), (.len 1), [.t 85], (some (83, true)), 0, 0⟩,
   ⟨(some 87), (.bin .sub), [.t 86, .c (.int .i64 1)], (some (83, true)), 0, 0⟩,
   ⟨(some 88), (.iad 1 false none), [.t 84, .t 87], (some (83, true)), 0, 0⟩,
   ⟨(some 89), (.load 1 false), [.t 88], (some (83, true)), 0, 0⟩,
   ⟨(some 90), .mov, [.t 10], (some (83, true)), 0, 0⟩,
   ⟨(some 91), (.bin .eql), [.t 89, .t 90], (some (83, true)), 0, 0⟩,
   ⟨(some 92), .pick, [.t 83, .t 91, .c (.bool false)], none, 0, 0⟩,
   ⟨(some 4), .mov, [.t 92], none, 0, 0⟩] false)
 .ret))))))))⟩
def cf7 : CF := ⟨0, 52, [.inl 0],
 (.seq (.reg [⟨(some 0), .mov, [.c (.bool false)], none, 0, 0⟩] false)
 (.seq (.reg [⟨(some 8), (.call 24 false false), [], none, 0, 1⟩,
   ⟨(some 9), (.call 9 false false), [.t 8], none, 0, 5⟩,
   ⟨(some 7), .mov, [.t 9], none, 0, 0⟩,
   ⟨(some 10), (.ext 0), [.t 7], none, 0, 0⟩,
   ⟨(some 11), (.ext 1), [.t 7], none, 0, 0⟩,
   ⟨(some 1), .mov, [.t 10], none, 0, 0⟩,
   ⟨(some 2), .mov, [.t 11], none, 0, 0⟩] false)
 (.seq (.reg [⟨(some 13), (.call 24 false false), [], none, 0, 9⟩,
   ⟨(some 14), (.build [(.str []), (.int .i64 0)] [(0, 1), (1, 1)]), [.c (.str [110]), .c (.int .i64 5)], none, 0, 0⟩,
   ⟨(some 15), (.mkSl 2 true false), [.t 14], none, 0, 0⟩,
   ⟨(some 16), (.call 20 false false), [.t 13, .t 15], none, 0, 13⟩,
   ⟨(some 12), .mov, [.t 16], none, 0, 0⟩,
   ⟨(some 17), (.ext 0), [.t 12], none, 0, 0⟩,
   ⟨(some 18), (.ext 1), [.t 12], none, 0, 0⟩,
   ⟨(some 3), .mov, [.t 17], none, 0, 0⟩,
   ⟨(some 4), .mov, [.t 18], none, 0, 0⟩] false)
 (.seq (.reg [⟨(some 20), (.call 24 false false), [], none, 0, 17⟩,
   ⟨(some 21), (.call 11 false false), [.t 20, .c (.int .i64 0)], none, 0, 21⟩,
   ⟨(some 19), .mov, [.t 21], none, 0, 0⟩,
   ⟨(some 22), (.ext 0), [.t 19], none, 0, 0⟩,
   ⟨(some 23), (.ext 1), [.t 19], none, 0, 0⟩,
   ⟨(some 5), .mov, [.t 22], none, 0, 0⟩,
   ⟨(some 6), .mov, [.t 23], none, 0, 0⟩] false)
 (.seq (.reg [⟨(some 24), .mov, [.t 2], none, 0, 0⟩,
   ⟨(some 25), (.bin .eql), [.t 24, .c (.int .i64 0)], none, 0, 0⟩,
   ⟨(some 26), .mov, [.t 25], none, 0, 0⟩,
   ⟨(some 27), .mov, [.t 4], (some (26, true)), 0, 0⟩,
   ⟨(some 28), (.bin .eql), [.t 27, .c (.int .i64 0)], (some (26, true)), 0, 0⟩,
   ⟨(some 29), .pick, [.t 26, .t 28, .c (.bool false)], none, 0, 0⟩,
   ⟨(some 30), .mov, [.t 29], none, 0, 0⟩,
   ⟨(some 31), .mov, [.t 6], (some (30, true)), 0, 0⟩,
   ⟨(some 32), (.bin .eql), [.t 31, .c (.int .i64 0)], (some (30, true)), 0, 0⟩,
   ⟨(some 33), .pick, [.t 30, .t 32, .c (.bool false)], none, 0, 0⟩,
   ⟨(some 34), .mov, [.t 33], none, 0, 0⟩,
   ⟨(some 35), .mov, [.t 1], (some (34, true)), 0, 0⟩,
   ⟨(some 36), (.call 14 false false), [.t 35], (some (34, true)), 0, 25⟩,
   ⟨(some 37), (.build [(.int .i64 0), (.int .i64 0)] [(0, 1), (1, 1)]), [.c (.int .i64 (-1)), .c (.int .i64 0)], (some (34, true)), 0, 0⟩,
   ⟨(some 38), (.build [(.int .i64 0), (.int .i64 0)] [(0, 1), (1, 1)]), [.c (.int .i64 (-1)), .c (.int .i64 0)], (some (34, true)), 0, 0⟩,
   ⟨(some 39), (.build [(.int .i64 0), (.int .i64 0)] [(0, 1), (1, 1)]), [.c (.int .i64 0), .c (.int .i64 1)], (some (34, true)), 0, 0⟩,
   ⟨(some 40), (.mkSl 2 true false), [.t 37, .t 38, .t 39], (some (34, true)), 0, 0⟩,
   ⟨(some 41), (.call 13 false false), [.t 36, .t 40], (some (34, true)), 0, 29⟩,
   ⟨(some 42), .pick, [.t 34, .t 41, .c (.bool false)], none, 0, 0⟩,
   ⟨(some 43), .mov, [.t 42], none, 0, 0⟩,
   ⟨(some 44), .mov, [.t 3], (some (43, true)), 0, 0⟩,
   ⟨(some 45), (.bin .eql), [.t 44, .c (.int .i64 15)], (some (43, true)), 0, 0⟩,
   ⟨(some 46), .pick, [.t 43, .t 45, .c (.bool false)], none, 0, 0⟩,
   ⟨(some 47), .mov, [.t 46], none, 0, 0⟩,
   ⟨(some 48), .mov, [.t 5], (some (47, true)), 0, 0⟩,
   ⟨(some 49), (.len 1), [.t 48], (some (47, true)), 0, 0⟩,
   ⟨(some 50), (.bin .eql), [.t 49, .c (.int .i64 3)], (some (47, true)), 0, 0⟩,
   ⟨(some 51), .pick, [.t 47, .t 50, .c (.bool false)], none, 0, 0⟩,
   ⟨(some 0), .mov, [.t 51], none, 0, 0⟩] false)
 .ret)))))⟩
def cf8M0 : List Bool := [false, true, false, true, false, false, false, false, false, false, false, false, false, false, false, false, false, false, false, false, false, false, false, false, false, false, false, false, false, false, false, false, false, false, false, false, false, false, false, false, false, false, false, false, false, false, false, false, false, false, false, false, false, false, false, false, false, false, false, false, false, false, false, false, false, false, false, false, false, false, false, false, false, false, false, false, false, false, false, false, false, false, false, false, false, false, false, false, false, false, false, false]
def cf8E0 (t1 t3 : AV) : List AV := [.top, t1, .top, t3, .top, .top, .top, .top, .top, .top, .top, .top, .top, .top, .top, .top, .top, .top, .top, .top, .top, .top, .top, .top, .top, .top, .top, .top, .top, .top, .top, .top, .top, .top, .top, .top, .top, .top, .top, .top, .top, .top, .top, .top, .top, .top, .top, .top, .top, .top, .top, .top, .top, .top, .top, .top, .top, .top, .top, .top, .top, .top, .top, .top, .top, .top, .top, .top, .top, .top, .top, .top, .top, .top, .top, .top, .top, .top, .top, .top, .top, .top, .top, .top, .top, .top, .top, .top, .top, .top, .top, .top]
def cf8L0 : C :=
 (.seq (.seq (.reg [⟨(some 5), .mov, [.t 3], none, 0, 0⟩,
   ⟨(some 6), (.fad 4 1 false), [.t 1], none, 0, 0⟩,
   ⟨(some 7), (.load 1 false), [.t 6], none, 0, 0⟩,
   ⟨(some 8), (.len 1), [.t 7], none, 0, 0⟩,
   ⟨(some 9), (.bin .lss), [.t 5, .t 8], none, 0, 0⟩] false)
 (.cond (.t 9) .skip
  (.exit 0)))
 (.seq (.block 1 (.seq (.reg [⟨(some 12), (.fad 4 1 false), [.t 1], none, 0, 0⟩,
    ⟨(some 13), (.load 1 false), [.t 12], none, 0, 0⟩,
    ⟨(some 14), .mov, [.t 3], none, 0, 0⟩,
    ⟨(some 15), (.iad 24 true none), [.t 13, .t 14], none, 0, 0⟩,
    ⟨(some 16), (.fad 3 9 true), [.t 15], none, 0, 0⟩,
    ⟨(some 17), (.load 9 true), [.t 16], none, 0, 0⟩,
    ⟨(some 18), (.call 25 false false), [.t 17], none, 0, 5⟩,
    ⟨(some 19), (.un .not), [.t 18], none, 0, 0⟩,
    ⟨(some 20), .mov, [.t 19], none, 0, 0⟩,
    ⟨(some 21), (.fad 4 1 false), [.t 1], (some (20, false)), 0, 0⟩,
    ⟨(some 22), (.load 1 false), [.t 21], (some (20, false)), 0, 0⟩,
    ⟨(some 23), .mov, [.t 3], (some (20, false)), 0, 0⟩,
    ⟨(some 24), (.iad 24 true none), [.t 22, .t 23], (some (20, false)), 0, 0⟩,
    ⟨(some 25), (.fad 14 9 true), [.t 24], (some (20, false)), 0, 0⟩,
    ⟨(some 26), (.load 9 true), [.t 25], (some (20, false)), 0, 0⟩,
    ⟨(some 27), (.call 25 false false), [.t 26], (some (20, false)), 0, 9⟩,
    ⟨(some 28), (.un .not), [.t 27], (some (20, false)), 0, 0⟩,
    ⟨(some 29), .pick, [.t 20, .c (.bool true), .t 28], none, 0, 0⟩,
    ⟨(some 30), .mov, [.t 29], none, 0, 0⟩,
    ⟨(some 31), (.fad 4 1 false), [.t 1], (some (30, false)), 0, 0⟩,
    ⟨(some 32), (.load 1 false), [.t 31], (some (30, false)), 0, 0⟩,
    ⟨(some 33), .mov, [.t 3], (some (30, false)), 0, 0⟩,
    ⟨(some 34), (.iad 24 true none), [.t 32, .t 33], (some (30, false)), 0, 0⟩,
    ⟨(some 35), (.fad 2 1 false), [.t 34], (some (30, false)), 0, 0⟩,
    ⟨(some 36), (.load 1 false), [.t 35], (some (30, false)), 0, 0⟩,
    ⟨(some 37), (.len 1), [.t 36], (some (30, false)), 0, 0⟩,
    ⟨(some 38), (.bin .gtr), [.t 37, .c (.int .i64 8)], (some (30, false)), 0, 0⟩,
    ⟨(some 39), .pick, [.t 30, .c (.bool true), .t 38], none, 0, 0⟩,
    ⟨(some 40), .mov, [.t 39], none, 0, 0⟩,
    ⟨(some 41), (.fad 4 1 false), [.t 1], (some (40, false)), 0, 0⟩,
    ⟨(some 42), (.load 1 false), [.t 41], (some (40, false)), 0, 0⟩,
    ⟨(some 43), .mov, [.t 3], (some (40, false)), 0, 0⟩,
    ⟨(some 44), (.iad 24 true none), [.t 42, .t 43], (some (40, false)), 0, 0⟩,
    ⟨(some 45), (.fad 12 1 false), [.t 44], (some (40, false)), 0, 0⟩,
    ⟨(some 46), (.load 1 false), [.t 45], (some (40, false)), 0, 0⟩,
    ⟨(some 47), (.call 26 false false), [.t 46], (some (40, false)), 0, 13⟩,
    ⟨(some 48), (.un .not), [.t 47], (some (40, false)), 0, 0⟩,
    ⟨(some 49), .pick, [.t 40, .c (.bool true), .t 48], none, 0, 0⟩] false)
  (.cond (.t 49) (.seq (.reg [⟨(some 2), .mov, [.c (.bool false)], none, 0, 0⟩] false)
   .ret)
   .skip)))
 (.reg [⟨(some 10), .mov, [.t 3], none, 0, 0⟩,
   ⟨(some 11), (.bin .add), [.t 10, .c (.int .i64 1)], none, 0, 0⟩,
   ⟨(some 3), .mov, [.t 11], none, 0, 0⟩] false)))
def cf8M1 : List Bool := [false, true, false, false, true, false, false, false, false, false, false, false, false, false, false, false, false, false, false, false, false, false, false, false, false, false, false, false, false, false, false, false, false, false, false, false, false, false, false, false, false, false, false, false, false, false, false, false, false, false, false, false, false, false, false, false, false, false, false, false, false, false, false, false, false, false, false, false, false, false, false, false, false, false, false, false, false, false, false, false, false, false, false, false, false, false, false, false, false, false, false, false]
def cf8E1 (t1 t4 : AV) : List AV := [.top, t1, .top, .top, t4, .top, .top, .top, .top, .top, .top, .top, .top, .top, .top, .top, .top, .top, .top, .top, .top, .top, .top, .top, .top, .top, .top, .top, .top, .top, .top, .top, .top, .top, .top, .top, .top, .top, .top, .top, .top, .top, .top, .top, .top, .top, .top, .top, .top, .top, .top, .top, .top, .top, .top, .top, .top, .top, .top, .top, .top, .top, .top, .top, .top, .top, .top, .top, .top, .top, .top, .top, .top, .top, .top, .top, .top, .top, .top, .top, .top, .top, .top, .top, .top, .top, .top, .top, .top, .top, .top, .top]
def cf8L1 : C :=
 (.seq (.seq (.reg [⟨(some 50), .mov, [.t 4], none, 0, 0⟩,
   ⟨(some 51), (.fad 3 1 false), [.t 1], none, 0, 0⟩,
   ⟨(some 52), (.load 1 false), [.t 51], none, 0, 0⟩,
   ⟨(some 53), (.len 1), [.t 52], none, 0, 0⟩,
   ⟨(some 54), (.bin .lss), [.t 50, .t 53], none, 0, 0⟩] false)
 (.cond (.t 54) .skip
  (.exit 2)))
 (.seq (.block 3 (.seq (.reg [⟨(some 57), (.fad 3 1 false), [.t 1], none, 0, 0⟩,
    ⟨(some 58), (.load 1 false), [.t 57], none, 0, 0⟩,
    ⟨(some 59), .mov, [.t 4], none, 0, 0⟩,
    ⟨(some 60), (.iad 3 true none), [.t 58, .t 59], none, 0, 0⟩,
    ⟨(some 61), (.load 3 true), [.t 60], none, 0, 0⟩,
    ⟨(some 62), (.call 27 false false), [.t 61], none, 0, 17⟩,
    ⟨(some 63), (.un .not), [.t 62], none, 0, 0⟩] false)
  (.cond (.t 63) (.seq (.reg [⟨(some 2), .mov, [.c (.bool false)], none, 0, 0⟩] false)
   .ret)
   .skip)))
 (.reg [⟨(some 55), .mov, [.t 4], none, 0, 0⟩,
   ⟨(some 56), (.bin .add), [.t 55, .c (.int .i64 1)], none, 0, 0⟩,
   ⟨(some 4), .mov, [.t 56], none, 0, 0⟩] false)))
def cf8 : CF := ⟨1, 92, [.inl 2],
 (.seq (.reg [⟨(some 1), .box, [.t 0], none, 0, 1⟩,
   ⟨(some 2), .mov, [.c (.bool false)], none, 0, 0⟩] false)
 (.seq (.seq (.reg [⟨(some 3), .mov, [.c (.int .i64 0)], none, 0, 0⟩] false)
 (.block 0 (.loop cf8L0 cf8M0)))
 (.seq (.seq (.reg [⟨(some 4), .mov, [.c (.int .i64 0)], none, 0, 0⟩] false)
 (.block 2 (.loop cf8L1 cf8M1)))
 (.seq (.reg [⟨(some 64), (.fad 4 1 false), [.t 1], none, 0, 0⟩,
   ⟨(some 65), (.load 1 false), [.t 64], none, 0, 0⟩,
   ⟨(some 66), (.len 1), [.t 65], none, 0, 0⟩,
   ⟨(some 67), (.bin .leq), [.t 66, .c (.int .i64 16)], none, 0, 0⟩,
   ⟨(some 68), .mov, [.t 67], none, 0, 0⟩,
   ⟨(some 69), (.fad 3 1 false), [.t 1], (some (68, true)), 0, 0⟩,
   ⟨(some 70), (.load 1 false), [.t 69], (some (68, true)), 0, 0⟩,
   ⟨(some 71), (.len 1), [.t 70], (some (68, true)), 0, 0⟩,
   ⟨(some 72), (.bin .leq), [.t 71, .c (.int .i64 20)], (some (68, true)), 0, 0⟩,
   ⟨(some 73), .pick, [.t 68, .t 72, .c (.bool false)], none, 0, 0⟩,
   ⟨(some 74), .mov, [.t 73], none, 0, 0⟩,
   ⟨(some 75), (.fad 0 1 false), [.t 1], (some (74, true)), 0, 0⟩,
   ⟨(some 76), (.load 1 false), [.t 75], (some (74, true)), 0, 0⟩,
   ⟨(some 77), (.len 1), [.t 76], (some (74, true)), 0, 0⟩,
   ⟨(some 78), (.bin .leq), [.t 77, .c (.int .i64 13)], (some (74, true)), 0, 0⟩,
   ⟨(some 79), .pick, [.t 74, .t 78, .c (.bool false)], none, 0, 0⟩,
   ⟨(some 80), .mov, [.t 79], none, 0, 0⟩,
   ⟨(some 81), (.fad 1 1 false), [.t 1], (some (80, true)), 0, 0⟩,
   ⟨(some 82), (.load 1 false), [.t 81], (some (80, true)), 0, 0⟩,
   ⟨(some 83), (.len 1), [.t 82], (some (80, true)), 0, 0⟩,
   ⟨(some 84), (.bin .leq), [.t 83, .c (.int .i64 12)], (some (80, true)), 0, 0⟩,
   ⟨(some 85), .pick, [.t 80, .t 84, .c (.bool false)], none, 0, 0⟩,
   ⟨(some 86), .mov, [.t 85], none, 0, 0⟩,
   ⟨(some 87), (.fad 5 1 false), [.t 1], (some (86, true)), 0, 0⟩,
   ⟨(some 88), (.load 1 false), [.t 87], (some (86, true)), 0, 0⟩,
   ⟨(some 89), (.len 1), [.t 88], (some (86, true)), 0, 0⟩,
   ⟨(some 90), (.bin .leq), [.t 89, .c (.int .i64 10)], (some (86, true)), 0, 0⟩,
   ⟨(some 91), .pick, [.t 86, .t 90, .c (.bool false)], none, 0, 0⟩,
   ⟨(some 2), .mov, [.t 91], none, 0, 0⟩] false)
 .ret))))⟩
def cf9M0 : List Bool := [false, true, false, false, false, false, true, false, false, false, false, false, false, false, false, false, false, false, false, false, false, false, false, false, false, false, false, false, true, true, false, false, false, false, false, false, false, false, false, false, false, false, false, false, false, false, false, false, false, false, false, false, false, false, false, false, false, false, false, false, false, false, false, false, false, false, false, false, false, false, false, false, false, false, false, false, false, false, false, false, false, false, false, false, false, false, false, false, false, false, false, false, false, false]
def cf9E0 (t1 t6 t28 t29 : AV) : List AV := [.top, t1, .top, .top, .top, .top, t6, .top, .top, .top, .top, .top, .top, .top, .top, .top, .top, .top, .top, .top, .top, .top, .top, .top, .top, .top, .top, .top, t28, t29, .top, .top, .top, .top, .top, .top, .top, .top, .top, .top, .top, .top, .top, .top, .top, .top, .top, .top, .top, .top, .top, .top, .top, .top, .top, .top, .top, .top, .top, .top, .top, .top, .top, .top, .top, .top, .top, .top, .top, .top, .top, .top, .top, .top, .top, .top, .top, .top, .top, .top, .top, .top, .top, .top, .top, .top, .top, .top, .top, .top, .top, .top, .top, .top]
def cf9L0 : C :=
 (.seq (.reg [⟨(some 30), (.bin .lss), [.t 29, .t 28], none, 0, 0⟩] false)
 (.seq (.cond (.t 30) .skip
  (.exit 0))
 (.seq (.block 1 (.seq (.reg [⟨(some 31), .mov, [.t 29], none, 0, 0⟩,
    ⟨(some 7), .mov, [.t 31], none, 0, 0⟩] false)
  (.reg [⟨(some 32), .mov, [.t 6], none, 0, 0⟩,
    ⟨(some 33), .mov, [.t 7], none, 0, 0⟩,
    ⟨(some 34), (.build [(.int .i64 0), (.int .i64 0)] [(0, 1), (1, 1)]), [.c (.int .i64 (-1)), .c (.int .i64 (-1))], none, 0, 0⟩,
    ⟨(some 35), (.iad 2 true none), [.t 32, .t 33], none, 0, 0⟩,
    ⟨none, (.store 2 true), [.t 35, .t 34], none, 0, 0⟩] false)))
 (.reg [⟨(some 36), (.bin .add), [.t 29, .c (.int .i64 1)], none, 0, 0⟩,
   ⟨(some 29), .mov, [.t 36], none, 0, 0⟩] false))))
def cf9M1 : List Bool := [false, true, false, false, false, false, true, false, true, false, false, false, false, false, false, false, false, false, false, false, false, false, false, false, false, false, false, false, false, false, false, false, false, false, false, false, false, false, true, true, true, false, false, false, false, false, false, false, false, false, false, false, false, false, false, false, false, false, false, false, false, false, false, false, false, true, true, true, false, false, false, false, false, false, false, false, false, false, false, false, false, false, false, false, false, false, false, false, false, false, false, false, false, false]
def cf9E1 (t1 t6 t8 t38 t39 t40 t65 t66 t67 : AV) : List AV := [.top, t1, .top, .top, .top, .top, t6, .top, t8, .top, .top, .top, .top, .top, .top, .top, .top, .top, .top, .top, .top, .top, .top, .top, .top, .top, .top, .top, .top, .top, .top, .top, .top, .top, .top, .top, .top, .top, t38, t39, t40, .top, .top, .top, .top, .top, .top, .top, .top, .top, .top, .top, .top, .top, .top, .top, .top, .top, .top, .top, .top, .top, .top, .top, .top, t65, t66, t67, .top, .top, .top, .top, .top, .top, .top, .top, .top, .top, .top, .top, .top, .top, .top, .top, .top, .top, .top, .top, .top, .top, .top, .top, .top, .top]
def cf9L1 : C :=
 (.seq (.reg [⟨(some 68), (.bin .lss), [.t 67, .t 66], none, 0, 0⟩] false)
 (.seq (.cond (.t 68) .skip
  (.exit 4))
 (.seq (.block 5 (.seq (.reg [⟨(some 69), (.iad 1 false none), [.t 65, .t 67], none, 0, 0⟩,
    ⟨(some 70), (.load 1 false), [.t 69], none, 0, 0⟩,
    ⟨(some 11), .mov, [.t 70], none, 0, 0⟩] false)
  (.reg [⟨(some 71), .mov, [.t 6], none, 0, 0⟩,
    ⟨(some 72), .mov, [.t 11], none, 0, 0⟩,
    ⟨(some 73), .mov, [.t 8], none, 0, 0⟩,
    ⟨(some 74), (.iad 2 true none), [.t 71, .t 72], none, 0, 0⟩,
    ⟨(some 75), (.fad 1 1 false), [.t 74], none, 0, 0⟩,
    ⟨none, (.store 1 false), [.t 75, .t 73], none, 0, 0⟩] false)))
 (.reg [⟨(some 76), (.bin .add), [.t 67, .c (.int .i64 1)], none, 0, 0⟩,
   ⟨(some 67), .mov, [.t 76], none, 0, 0⟩] false))))
def cf9M2 : List Bool := [false, true, false, false, false, false, true, false, false, false, false, false, false, false, false, false, false, false, false, false, false, false, false, false, false, false, false, false, false, false, false, false, false, false, false, false, false, false, true, true, true, false, false, false, false, false, false, false, false, false, false, false, false, false, false, false, false, false, false, false, false, false, false, false, false, false, false, false, false, false, false, false, false, false, false, false, false, false, false, false, false, false, false, false, false, false, false, false, false, false, false, false, false, false]
def cf9E2 (t1 t6 t38 t39 t40 : AV) : List AV := [.top, t1, .top, .top, .top, .top, t6, .top, .top, .top, .top, .top, .top, .top, .top, .top, .top, .top, .top, .top, .top, .top, .top, .top, .top, .top, .top, .top, .top, .top, .top, .top, .top, .top, .top, .top, .top, .top, t38, t39, t40, .top, .top, .top, .top, .top, .top, .top, .top, .top, .top, .top, .top, .top, .top, .top, .top, .top, .top, .top, .top, .top, .top, .top, .top, .top, .top, .top, .top, .top, .top, .top, .top, .top, .top, .top, .top, .top, .top, .top, .top, .top, .top, .top, .top, .top, .top, .top, .top, .top, .top, .top, .top, .top]
def cf9L2 : C :=
 (.seq (.reg [⟨(some 41), (.bin .lss), [.t 40, .t 39], none, 0, 0⟩] false)
 (.seq (.cond (.t 41) .skip
  (.exit 2))
 (.seq (.block 3 (.seq (.reg [⟨(some 42), .mov, [.t 40], none, 0, 0⟩,
    ⟨(some 43), (.iad 24 true none), [.t 38, .t 40], none, 0, 0⟩,
    ⟨(some 44), (.load 24 true), [.t 43], none, 0, 0⟩,
    ⟨(some 9), (.alloc [(.int .i64 0), (.int .i64 0), (.sl true [] true), (.str []), (.int .i64 0), (.int .i64 0), (.str []), (.sl true [] true), (.bool false), (.int .i64 0), (.sl true [] true), (.sl true [] true), (.sl true [] true), (.int .i64 0), (.str []), (.int .i64 0), (.int .i64 0), (.str []), (.sl true [] true), (.bool false), (.int .i64 0), (.sl true [] true), (.sl true [] true), (.int .i64 0)] true), [], none, 0, 13⟩,
    ⟨(some 8), .mov, [.t 42], none, 0, 0⟩,
    ⟨none, (.store 24 true), [.t 9, .t 44], none, 0, 0⟩] false)
  (.seq (.seq (.reg [⟨(some 45), .mov, [.t 6], none, 0, 0⟩,
    ⟨(some 46), (.fad 1 1 false), [.t 9], none, 0, 0⟩,
    ⟨(some 47), (.load 1 false), [.t 46], none, 0, 0⟩,
    ⟨(some 48), (.iad 2 true none), [.t 45, .t 47], none, 0, 0⟩,
    ⟨(some 49), (.fad 0 1 false), [.t 48], none, 0, 0⟩,
    ⟨(some 50), (.load 1 false), [.t 49], none, 0, 0⟩,
    ⟨(some 51), (.bin .eql), [.t 50, .c (.int .i64 (-2))], none, 0, 0⟩] false)
  (.cond (.t 51) (.reg [⟨(some 52), .mov, [.t 6], none, 0, 0⟩,
     ⟨(some 53), (.fad 1 1 false), [.t 9], none, 0, 0⟩,
     ⟨(some 54), (.load 1 false), [.t 53], none, 0, 0⟩,
     ⟨(some 55), .mov, [.t 8], none, 0, 0⟩,
     ⟨(some 56), (.iad 2 true none), [.t 52, .t 54], none, 0, 0⟩,
     ⟨(some 57), (.fad 0 1 false), [.t 56], none, 0, 0⟩,
     ⟨none, (.store 1 false), [.t 57, .t 55], none, 0, 0⟩] false)
   .skip))
  (.seq (.reg [⟨(some 58), .mov, [.t 6], none, 0, 0⟩,
    ⟨(some 59), (.fad 1 1 false), [.t 9], none, 0, 0⟩,
    ⟨(some 60), (.load 1 false), [.t 59], none, 0, 0⟩,
    ⟨(some 61), .mov, [.t 8], none, 0, 0⟩,
    ⟨(some 62), (.iad 2 true none), [.t 58, .t 60], none, 0, 0⟩,
    ⟨(some 63), (.fad 1 1 false), [.t 62], none, 0, 0⟩,
    ⟨none, (.store 1 false), [.t 63, .t 61], none, 0, 0⟩] false)
  (.seq (.reg [⟨(some 64), (.load 24 true), [.t 9], none, 0, 0⟩,
    ⟨(some 65), (.call 30 false false), [.t 64], none, 0, 17⟩,
    ⟨(some 66), (.len 1), [.t 65], none, 0, 0⟩,
    ⟨(some 67), .mov, [.c (.int .i64 0)], none, 0, 0⟩] false)
  (.block 4 (.loop cf9L1 cf9M1)))))))
 (.reg [⟨(some 77), (.bin .add), [.t 40, .c (.int .i64 1)], none, 0, 0⟩,
   ⟨(some 40), .mov, [.t 77], none, 0, 0⟩] false))))
def cf9M3 : List Bool := [false, true, false, false, false, false, true, false, false, false, false, false, false, false, false, false, false, false, false, false, false, false, false, false, false, false, false, false, false, false, false, false, false, false, false, false, false, false, false, false, false, false, false, false, false, false, false, false, false, false, false, false, false, false, false, false, false, false, false, false, false, false, false, false, false, false, false, false, false, false, false, false, false, false, false, false, false, false, false, true, true, true, false, false, false, false, false, false, false, false, false, false, false, false]
def cf9E3 (t1 t6 t79 t80 t81 : AV) : List AV := [.top, t1, .top, .top, .top, .top, t6, .top, .top, .top, .top, .top, .top, .top, .top, .top, .top, .top, .top, .top, .top, .top, .top, .top, .top, .top, .top, .top, .top, .top, .top, .top, .top, .top, .top, .top, .top, .top, .top, .top, .top, .top, .top, .top, .top, .top, .top, .top, .top, .top, .top, .top, .top, .top, .top, .top, .top, .top, .top, .top, .top, .top, .top, .top, .top, .top, .top, .top, .top, .top, .top, .top, .top, .top, .top, .top, .top, .top, .top, t79, t80, t81, .top, .top, .top, .top, .top, .top, .top, .top, .top, .top, .top, .top]
def cf9L3 : C :=
 (.seq (.reg [⟨(some 82), (.bin .lss), [.t 81, .t 80], none, 0, 0⟩] false)
 (.seq (.cond (.t 82) .skip
  (.exit 6))
 (.seq (.block 7 (.seq (.reg [⟨(some 83), (.iad 1 false none), [.t 79, .t 81], none, 0, 0⟩,
    ⟨(some 84), (.load 1 false), [.t 83], none, 0, 0⟩,
    ⟨(some 13), .mov, [.t 84], none, 0, 0⟩] false)
  (.reg [⟨(some 85), .mov, [.t 6], none, 0, 0⟩,
    ⟨(some 86), .mov, [.t 13], none, 0, 0⟩,
    ⟨(some 87), (.fad 4 1 false), [.t 1], none, 0, 0⟩,
    ⟨(some 88), (.load 1 false), [.t 87], none, 0, 0⟩,
    ⟨(some 89), (.len 1), [.t 88], none, 0, 0⟩,
    ⟨(some 90), (.iad 2 true none), [.t 85, .t 86], none, 0, 0⟩,
    ⟨(some 91), (.fad 1 1 false), [.t 90], none, 0, 0⟩,
    ⟨none, (.store 1 false), [.t 91, .t 89], none, 0, 0⟩] false)))
 (.reg [⟨(some 92), (.bin .add), [.t 81, .c (.int .i64 1)], none, 0, 0⟩,
   ⟨(some 81), .mov, [.t 92], none, 0, 0⟩] false))))
def cf9 : CF := ⟨1, 94, [.inl 2, .inl 3],
 (.seq (.reg [⟨(some 1), .box, [.t 0], none, 0, 1⟩,
   ⟨(some 2), .mov, [.c (.sl true [] true)], none, 0, 0⟩,
   ⟨(some 3), .mov, [.c (.int .i64 0)], none, 0, 0⟩] false)
 (.seq (.seq (.reg [⟨(some 15), (.load 6 true), [.t 1], none, 0, 0⟩,
   ⟨(some 16), (.call 28 false false), [.t 15], none, 0, 5⟩,
   ⟨(some 14), .mov, [.t 16], none, 0, 0⟩,
   ⟨(some 17), (.ext 0), [.t 14], none, 0, 0⟩,
   ⟨(some 18), (.ext 1), [.t 14], none, 0, 0⟩,
   ⟨(some 4), .mov, [.t 17], none, 0, 0⟩,
   ⟨(some 5), .mov, [.t 18], none, 0, 0⟩] false)
 (.seq (.reg [⟨(some 19), .mov, [.t 5], none, 0, 0⟩,
   ⟨(some 20), (.bin .neq), [.t 19, .c (.int .i64 0)], none, 0, 0⟩] false)
 (.cond (.t 20) (.seq (.reg [⟨(some 2), .mov, [.c (.sl true [] true)], none, 0, 0⟩,
    ⟨(some 3), .mov, [.c (.int .i64 22)], none, 0, 0⟩] false)
  .ret)
  .skip)))
 (.seq (.reg [⟨(some 21), (.build [(.int .i64 0), (.int .i64 0)] [(0, 1), (1, 1)]), [.c (.int .i64 (-2)), .c (.int .i64 (-2))], none, 0, 0⟩,
   ⟨(some 22), (.mkSl 2 true false), [.t 21], none, 0, 0⟩,
   ⟨(some 23), (.fad 3 1 false), [.t 1], none, 0, 0⟩,
   ⟨(some 24), (.load 1 false), [.t 23], none, 0, 0⟩,
   ⟨(some 25), (.len 1), [.t 24], none, 0, 0⟩,
   ⟨(some 26), (.call 29 true false), [.t 22, .t 25], none, 0, 9⟩,
   ⟨(some 6), .mov, [.t 26], none, 0, 0⟩] false)
 (.seq (.seq (.reg [⟨(some 27), (.fad 2 1 false), [.t 1], none, 0, 0⟩,
   ⟨(some 28), (.load 1 false), [.t 27], none, 0, 0⟩,
   ⟨(some 29), .mov, [.c (.int .i64 0)], none, 0, 0⟩] false)
 (.block 0 (.loop cf9L0 cf9M0)))
 (.seq (.seq (.reg [⟨(some 37), (.fad 4 1 false), [.t 1], none, 0, 0⟩,
   ⟨(some 38), (.load 1 false), [.t 37], none, 0, 0⟩,
   ⟨(some 39), (.len 1), [.t 38], none, 0, 0⟩,
   ⟨(some 40), .mov, [.c (.int .i64 0)], none, 0, 0⟩] false)
 (.block 2 (.loop cf9L2 cf9M2)))
 (.seq (.seq (.reg [⟨(some 78), (.fad 5 1 false), [.t 1], none, 0, 0⟩,
   ⟨(some 79), (.load 1 false), [.t 78], none, 0, 0⟩,
   ⟨(some 80), (.len 1), [.t 79], none, 0, 0⟩,
   ⟨(some 81), .mov, [.c (.int .i64 0)], none, 0, 0⟩] false)
 (.block 6 (.loop cf9L3 cf9M3)))
 (.seq (.reg [⟨(some 93), .mov, [.t 6], none, 0, 0⟩,
   ⟨(some 2), .mov, [.t 93], none, 0, 0⟩,
   ⟨(some 3), .mov, [.c (.int .i64 0)], none, 0, 0⟩] false)
 .ret)))))))⟩
def cf11M0 : List Bool := [false, true, false, false, false, false, false, false, true, false, false, false, false, false, false, false, false, false, false, false, false, false, false, false, false, false, false, false, true, true, true, false, false, false, false, false, false, false, false, false, false, false, false, false, false, false, false, false, false, false, false, false, false, false, false, false]
def cf11E0 (t1 t8 t28 t29 t30 : AV) : List AV := [.top, t1, .top, .top, .top, .top, .top, .top, t8, .top, .top, .top, .top, .top, .top, .top, .top, .top, .top, .top, .top, .top, .top, .top, .top, .top, .top, .top, t28, t29, t30, .top, .top, .top, .top, .top, .top, .top, .top, .top, .top, .top, .top, .top, .top, .top, .top, .top, .top, .top, .top, .top, .top, .top, .top, .top]
def cf11L0 : C :=
 (.seq (.reg [⟨(some 31), (.bin .lss), [.t 30, .t 29], none, 0, 0⟩] false)
 (.seq (.cond (.t 31) .skip
  (.exit 0))
 (.seq (.block 1 (.seq (.reg [⟨(some 32), .mov, [.t 30], none, 0, 0⟩,
    ⟨(some 33), (.iad 2 true none), [.t 28, .t 30], none, 0, 0⟩,
    ⟨(some 34), (.load 2 true), [.t 33], none, 0, 0⟩,
    ⟨(some 10), (.alloc [(.int .i64 0), (.int .i64 0)] true), [], none, 0, 9⟩,
    ⟨(some 9), .mov, [.t 32], none, 0, 0⟩,
    ⟨none, (.store 2 true), [.t 10, .t 34], none, 0, 0⟩] false)
  (.seq (.reg [⟨(some 35), (.fad 0 1 false), [.t 10], none, 0, 0⟩,
    ⟨(some 36), (.load 1 false), [.t 35], none, 0, 0⟩,
    ⟨(some 37), (.bin .neq), [.t 36, .c (.int .i64 (-2))], none, 0, 0⟩,
    ⟨(some 38), .mov, [.t 37], none, 0, 0⟩,
    ⟨(some 39), (.fad 0 1 false), [.t 10], (some (38, true)), 0, 0⟩,
    ⟨(some 40), (.load 1 false), [.t 39], (some (38, true)), 0, 0⟩,
    ⟨(some 41), .mov, [.t 1], (some (38, true)), 0, 0⟩,
    ⟨(some 42), (.bin .leq), [.t 40, .t 41], (some (38, true)), 0, 0⟩,
    ⟨(some 43), .pick, [.t 38, .t 42, .c (.bool false)], none, 0, 0⟩,
    ⟨(some 44), .mov, [.t 43], none, 0, 0⟩,
    ⟨(some 45), .mov, [.t 1], (some (44, true)), 0, 0⟩,
    ⟨(some 46), (.fad 1 1 false), [.t 10], (some (44, true)), 0, 0⟩,
    ⟨(some 47), (.load 1 false), [.t 46], (some (44, true)), 0, 0⟩,
    ⟨(some 48), (.bin .leq), [.t 45, .t 47], (some (44, true)), 0, 0⟩,
    ⟨(some 49), .pick, [.t 44, .t 48, .c (.bool false)], none, 0, 0⟩] false)
  (.cond (.t 49) (.reg [⟨(some 50), .mov, [.t 8], none, 0, 0⟩,
     ⟨(some 51), .mov, [.t 9], none, 0, 0⟩,
     ⟨(some 52), (.mkSl 1 false false), [.t 51], none, 0, 0⟩,
     ⟨(some 53), (.app 1 false 8), [.t 50, .t 52], none, 0, 13⟩,
     ⟨(some 8), .mov, [.t 53], none, 0, 0⟩] false)
   .skip))))
 (.reg [⟨(some 54), (.bin .add), [.t 30, .c (.int .i64 1)], none, 0, 0⟩,
   ⟨(some 30), .mov, [.t 54], none, 0, 0⟩] false))))
def cf11 : CF := ⟨2, 56, [.inl 4, .inl 5],
 (.seq (.reg [⟨(some 2), .box, [.t 0], none, 0, 1⟩,
   ⟨(some 4), .mov, [.c (.sl true [] true)], none, 0, 0⟩,
   ⟨(some 5), .mov, [.c (.int .i64 0)], none, 0, 0⟩] false)
 (.seq (.reg [⟨(some 12), (.load 6 true), [.t 2], none, 0, 0⟩,
   ⟨(some 13), (.call 9 false false), [.t 12], none, 0, 5⟩,
   ⟨(some 11), .mov, [.t 13], none, 0, 0⟩,
   ⟨(some 14), (.ext 0), [.t 11], none, 0, 0⟩,
   ⟨(some 15), (.ext 1), [.t 11], none, 0, 0⟩,
   ⟨(some 6), .mov, [.t 14], none, 0, 0⟩,
   ⟨(some 7), .mov, [.t 15], none, 0, 0⟩] false)
 (.seq (.seq (.reg [⟨(some 16), .mov, [.t 7], none, 0, 0⟩,
   ⟨(some 17), (.bin .neq), [.t 16, .c (.int .i64 0)], none, 0, 0⟩] false)
 (.cond (.t 17) (.seq (.reg [⟨(some 18), .mov, [.t 7], none, 0, 0⟩,
    ⟨(some 4), .mov, [.c (.sl true [] true)], none, 0, 0⟩,
    ⟨(some 5), .mov, [.t 18], none, 0, 0⟩] false)
  .ret)
  .skip))
 (.seq (.seq (.reg [⟨(some 19), .mov, [.t 1], none, 0, 0⟩,
   ⟨(some 20), (.bin .lss), [.t 19, .c (.int .i64 (-1))], none, 0, 0⟩,
   ⟨(some 21), .mov, [.t 20], none, 0, 0⟩,
   ⟨(some 22), .mov, [.t 1], (some (21, false)), 0, 0⟩,
   ⟨(some 23), (.fad 4 1 false), [.t 2], (some (21, false)), 0, 0⟩,
   ⟨(some 24), (.load 1 false), [.t 23], (some (21, false)), 0, 0⟩,
   ⟨(some 25), (.len 1), [.t 24], (some (21, false)), 0, 0⟩,
   ⟨(some 26), (.bin .gtr), [.t 22, .t 25], (some (21, false)), 0, 0⟩,
   ⟨(some 27), .pick, [.t 21, .c (.bool true), .t 26], none, 0, 0⟩] false)
 (.cond (.t 27) (.seq (.reg [⟨(some 4), .mov, [.c (.sl true [] true)], none, 0, 0⟩,
    ⟨(some 5), .mov, [.c (.int .i64 2)], none, 0, 0⟩] false)
  .ret)
  .skip))
 (.seq (.reg [⟨(some 8), .mov, [.c (.sl true [] true)], none, 0, 0⟩] false)
 (.seq (.seq (.reg [⟨(some 28), .mov, [.t 6], none, 0, 0⟩,
   ⟨(some 29), (.len 1), [.t 28], none, 0, 0⟩,
   ⟨(some 30), .mov, [.c (.int .i64 0)], none, 0, 0⟩] false)
 (.block 0 (.loop cf11L0 cf11M0)))
 (.seq (.reg [⟨(some 55), .mov, [.t 8], none, 0, 0⟩,
   ⟨(some 4), .mov, [.t 55], none, 0, 0⟩,
   ⟨(some 5), .mov, [.c (.int .i64 0)], none, 0, 0⟩] false)
 .ret)))))))⟩
def cf13M0 : List Bool := [true, true, false, false, false, true, false, false, false, false, false, false, false, false, false, false, false, false, false, false, false, false, false, false, false, false]
def cf13E0 (t0 t1 t5 : AV) : List AV := [t0, t1, .top, .top, .top, t5, .top, .top, .top, .top, .top, .top, .top, .top, .top, .top, .top, .top, .top, .top, .top, .top, .top, .top, .top, .top]
def cf13L0 : C :=
 (.seq (.seq (.reg [⟨(some 11), .mov, [.t 5], none, 0, 0⟩,
   ⟨(some 12), .mov, [.t 0], none, 0, 0⟩,
   ⟨(some 13), (.len 1), [.t 12], none, 0, 0⟩,
   ⟨(some 14), (.bin .lss), [.t 11, .t 13], none, 0, 0⟩] false)
 (.cond (.t 14) .skip
  (.exit 0)))
 (.seq (.block 1 (.seq (.reg [⟨(some 17), .mov, [.t 0], none, 0, 0⟩,
    ⟨(some 18), .mov, [.t 5], none, 0, 0⟩,
    ⟨(some 19), (.iad 2 true none), [.t 17, .t 18], none, 3, 0⟩,
    ⟨(some 20), (.load 2 true), [.t 19], none, 7, 0⟩,
    ⟨(some 21), .mov, [.t 1], none, 0, 0⟩,
    ⟨(some 22), .mov, [.t 5], none, 0, 0⟩,
    ⟨(some 23), (.iad 2 true none), [.t 21, .t 22], none, 48, 0⟩,
    ⟨(some 24), (.load 2 true), [.t 23], none, 112, 0⟩,
    ⟨(some 25), (.eqs true [0, 0]), [.t 20, .t 24], none, 255, 0⟩] true)
  (.cond (.t 25) (.seq (.reg [⟨(some 4), .mov, [.c (.bool false)], none, 0, 0⟩] false)
   .ret)
   .skip)))
 (.reg [⟨(some 15), .mov, [.t 5], none, 0, 0⟩,
   ⟨(some 16), (.bin .add), [.t 15, .c (.int .i64 1)], none, 0, 0⟩,
   ⟨(some 5), .mov, [.t 16], none, 0, 0⟩] false)))
def cf13 : CF := ⟨2, 26, [.inl 4],
 (.seq (.reg [⟨(some 4), .mov, [.c (.bool false)], none, 0, 0⟩] false)
 (.seq (.seq (.reg [⟨(some 6), .mov, [.t 0], none, 0, 0⟩,
   ⟨(some 7), (.len 1), [.t 6], none, 0, 0⟩,
   ⟨(some 8), .mov, [.t 1], none, 0, 0⟩,
   ⟨(some 9), (.len 1), [.t 8], none, 0, 0⟩,
   ⟨(some 10), (.bin .neq), [.t 7, .t 9], none, 0, 0⟩] false)
 (.cond (.t 10) (.seq (.reg [⟨(some 4), .mov, [.c (.bool false)], none, 0, 0⟩] false)
  .ret)
  .skip))
 (.seq (.seq (.reg [⟨(some 5), .mov, [.c (.int .i64 0)], none, 0, 0⟩] false)
 (.block 0 (.loop cf13L0 cf13M0)))
 (.seq (.reg [⟨(some 4), .mov, [.c (.bool true)], none, 0, 0⟩] false)
 .ret))))⟩
def cf14M0 : List Bool := [false, false, false, true, false, false, true, true, true, false, false, false, false, false, false, false, false, false]
def cf14E0 (t3 t6 t7 t8 : AV) : List AV := [.top, .top, .top, t3, .top, .top, t6, t7, t8, .top, .top, .top, .top, .top, .top, .top, .top, .top]
def cf14L0 : C :=
 (.seq (.reg [⟨(some 9), (.bin .lss), [.t 8, .t 7], none, 0, 0⟩] false)
 (.seq (.cond (.t 9) .skip
  (.exit 0))
 (.seq (.block 1 (.seq (.reg [⟨(some 10), (.iad 2 true none), [.t 6, .t 8], none, 0, 0⟩,
    ⟨(some 11), (.load 2 true), [.t 10], none, 0, 0⟩,
    ⟨(some 5), (.alloc [(.int .i64 0), (.int .i64 0)] true), [], none, 0, 1⟩,
    ⟨none, (.store 2 true), [.t 5, .t 11], none, 0, 0⟩] false)
  (.reg [⟨(some 12), .mov, [.t 3], none, 0, 0⟩,
    ⟨(some 13), (.load 2 true), [.t 5], none, 0, 0⟩,
    ⟨(some 14), (.mkSl 2 true false), [.t 13], none, 0, 0⟩,
    ⟨(some 15), (.app 2 true 16), [.t 12, .t 14], none, 0, 5⟩,
    ⟨(some 3), .mov, [.t 15], none, 0, 0⟩] false)))
 (.reg [⟨(some 16), (.bin .add), [.t 8, .c (.int .i64 1)], none, 0, 0⟩,
   ⟨(some 8), .mov, [.t 16], none, 0, 0⟩] false))))
def cf14 : CF := ⟨1, 18, [.inl 2],
 (.seq (.reg [⟨(some 2), .mov, [.c (.sl true [] true)], none, 0, 0⟩] false)
 (.seq (.reg [⟨(some 3), .mov, [.c (.sl true [] true)], none, 0, 0⟩] false)
 (.seq (.seq (.reg [⟨(some 6), .mov, [.t 0], none, 0, 0⟩,
   ⟨(some 7), (.len 1), [.t 6], none, 0, 0⟩,
   ⟨(some 8), .mov, [.c (.int .i64 0)], none, 0, 0⟩] false)
 (.block 0 (.loop cf14L0 cf14M0)))
 (.seq (.reg [⟨(some 17), .mov, [.t 3], none, 0, 0⟩,
   ⟨(some 2), .mov, [.t 17], none, 0, 0⟩] false)
 .ret))))⟩
def cf16M0 : List Bool := [false, true, true, false, false, false, true, false, false, false, false, false, false, false, false, false, false, false, false, false, false, false, false, false, false, false, false, false, false, false, false, false, false, true, true, true, false, false, false, false, false, false, false, false, false, false, false, false, false, false, false, false, false, false, false, false, false, false, false, false, false, false, false, false, false, false, false, false, false, false, false, false, false, false, false, false, false, false, false, false, false, false, false, false, false, false, false, false, false, false, false, false, false, false, false, false, false, false, false, false, false, false, false, false, false, false, false]
def cf16E0 (t1 t2 t6 t33 t34 t35 : AV) : List AV := [.top, t1, t2, .top, .top, .top, t6, .top, .top, .top, .top, .top, .top, .top, .top, .top, .top, .top, .top, .top, .top, .top, .top, .top, .top, .top, .top, .top, .top, .top, .top, .top, .top, t33, t34, t35, .top, .top, .top, .top, .top, .top, .top, .top, .top, .top, .top, .top, .top, .top, .top, .top, .top, .top, .top, .top, .top, .top, .top, .top, .top, .top, .top, .top, .top, .top, .top, .top, .top, .top, .top, .top, .top, .top, .top, .top, .top, .top, .top, .top, .top, .top, .top, .top, .top, .top, .top, .top, .top, .top, .top, .top, .top, .top, .top, .top, .top, .top, .top, .top, .top, .top, .top, .top, .top, .top, .top]
def cf16L0 : C :=
 (.seq (.reg [⟨(some 36), (.bin .lss), [.t 35, .t 34], none, 0, 0⟩] false)
 (.seq (.cond (.t 36) .skip
  (.exit 0))
 (.seq (.block 1 (.seq (.reg [⟨(some 37), .mov, [.t 35], none, 0, 0⟩,
    ⟨(some 38), (.iad 2 true none), [.t 33, .t 35], none, 0, 0⟩,
    ⟨(some 39), (.load 2 true), [.t 38], none, 0, 0⟩,
    ⟨(some 9), (.alloc [(.str []), (.int .i64 0)] true), [], none, 0, 9⟩,
    ⟨(some 8), .mov, [.t 37], none, 0, 0⟩,
    ⟨none, (.store 2 true), [.t 9, .t 39], none, 0, 0⟩] false)
  (.seq (.reg [⟨(some 40), (.fad 0 1 false), [.t 9], none, 0, 0⟩,
    ⟨(some 41), (.load 1 false), [.t 40], none, 1, 0⟩,
    ⟨(some 42), (.fad 0 1 false), [.t 2], none, 0, 0⟩,
    ⟨(some 43), (.load 1 false), [.t 42], none, 4, 0⟩,
    ⟨(some 44), .mov, [.t 8], none, 0, 0⟩,
    ⟨(some 45), (.iad 1 false none), [.t 43, .t 44], none, 28, 0⟩,
    ⟨(some 46), (.load 1 false), [.t 45], none, 60, 0⟩,
    ⟨(some 47), (.bin .neq), [.t 41, .t 46], none, 127, 0⟩,
    ⟨(some 48), .mov, [.t 47], none, 255, 0⟩,
    ⟨(some 49), (.fad 1 1 false), [.t 9], (some (48, false)), 511, 0⟩,
    ⟨(some 50), (.load 1 false), [.t 49], (some (48, false)), 1023, 0⟩,
    ⟨(some 51), (.bin .lss), [.t 50, .c (.int .i64 0)], (some (48, false)), 2047, 0⟩,
    ⟨(some 52), .pick, [.t 48, .c (.bool true), .t 51], none, 4095, 0⟩,
    ⟨(some 53), .mov, [.t 52], none, 8191, 0⟩,
    ⟨(some 54), (.fad 1 1 false), [.t 9], (some (53, false)), 16383, 0⟩,
    ⟨(some 55), (.load 1 false), [.t 54], (some (53, false)), 32767, 0⟩,
    ⟨(some 56), (.bin .gtr), [.t 55, .c (.int .i64 4096)], (some (53, false)), 65535, 0⟩,
    ⟨(some 57), .pick, [.t 53, .c (.bool true), .t 56], none, 131071, 0⟩] true)
  (.cond (.t 57) (.seq (.reg [⟨(some 4), .mov, [.c (.sl true [] true)], none, 0, 0⟩,
     ⟨(some 5), .mov, [.c (.int .i64 1)], none, 0, 0⟩] false)
   .ret)
   .skip))))
 (.reg [⟨(some 58), (.bin .add), [.t 35, .c (.int .i64 1)], none, 0, 0⟩,
   ⟨(some 35), .mov, [.t 58], none, 0, 0⟩] false))))
def cf16M1 : List Bool := [false, true, true, false, false, false, true, false, false, false, false, false, false, false, false, false, false, false, false, false, false, false, false, false, false, false, false, false, false, false, false, false, false, false, false, false, false, false, false, false, false, false, false, false, false, false, false, false, false, false, false, false, false, false, false, false, false, false, false, false, true, true, true, false, false, false, false, false, false, false, false, false, false, false, false, false, false, false, false, false, false, false, false, false, false, false, false, false, false, false, false, false, false, false, false, false, false, false, false, false, false, false, false, false, false, false, false]
def cf16E1 (t1 t2 t6 t60 t61 t62 : AV) : List AV := [.top, t1, t2, .top, .top, .top, t6, .top, .top, .top, .top, .top, .top, .top, .top, .top, .top, .top, .top, .top, .top, .top, .top, .top, .top, .top, .top, .top, .top, .top, .top, .top, .top, .top, .top, .top, .top, .top, .top, .top, .top, .top, .top, .top, .top, .top, .top, .top, .top, .top, .top, .top, .top, .top, .top, .top, .top, .top, .top, .top, t60, t61, t62, .top, .top, .top, .top, .top, .top, .top, .top, .top, .top, .top, .top, .top, .top, .top, .top, .top, .top, .top, .top, .top, .top, .top, .top, .top, .top, .top, .top, .top, .top, .top, .top, .top, .top, .top, .top, .top, .top, .top, .top, .top, .top, .top, .top]
def cf16L1 : C :=
 (.seq (.reg [⟨(some 63), (.bin .lss), [.t 62, .t 61], none, 0, 0⟩] false)
 (.seq (.cond (.t 63) .skip
  (.exit 2))
 (.seq (.block 3 (.seq (.reg [⟨(some 64), (.iad 2 true none), [.t 60, .t 62], none, 0, 0⟩,
    ⟨(some 65), (.load 2 true), [.t 64], none, 0, 0⟩,
    ⟨(some 11), (.alloc [(.int .i64 0), (.sl true [] true)] true), [], none, 0, 13⟩,
    ⟨none, (.store 2 true), [.t 11, .t 65], none, 0, 0⟩] false)
  (.seq (.reg [⟨(some 67), (.load 2 true), [.t 11], none, 0, 0⟩,
    ⟨(some 68), .mov, [.t 1], none, 0, 0⟩,
    ⟨(some 69), (.call 32 false false), [.t 67, .t 68], none, 0, 17⟩,
    ⟨(some 66), .mov, [.t 69], none, 0, 0⟩,
    ⟨(some 70), (.ext 0), [.t 66], none, 0, 0⟩,
    ⟨(some 71), (.ext 1), [.t 66], none, 0, 0⟩,
    ⟨(some 12), .mov, [.t 70], none, 0, 0⟩,
    ⟨(some 13), .mov, [.t 71], none, 0, 0⟩] false)
  (.seq (.reg [⟨(some 72), .mov, [.t 12], none, 0, 0⟩,
    ⟨(some 73), (.bin .lss), [.t 72, .c (.int .i64 0)], none, 0, 0⟩] false)
  (.cond (.t 73) (.seq (.reg [⟨(some 4), .mov, [.c (.sl true [] true)], none, 0, 0⟩,
     ⟨(some 5), .mov, [.c (.int .i64 2)], none, 0, 0⟩] false)
   .ret)
   .skip)))))
 (.reg [⟨(some 74), (.bin .add), [.t 62, .c (.int .i64 1)], none, 0, 0⟩,
   ⟨(some 62), .mov, [.t 74], none, 0, 0⟩] false))))
def cf16M2 : List Bool := [false, true, true, false, false, false, false, false, false, false, false, false, false, false, true, false, false, false, false, false, false, false, false, false, false, false, false, false, false, false, false, false, false, false, false, false, false, false, false, false, false, false, false, false, false, false, false, false, false, false, false, false, false, false, false, false, false, false, false, false, false, false, false, false, false, false, false, false, false, false, false, false, false, false, false, false, false, false, false, true, true, true, false, false, false, false, false, false, false, false, false, false, false, false, false, false, false, false, false, false, false, false, false, false, false, false, false]
def cf16E2 (t1 t2 t14 t79 t80 t81 : AV) : List AV := [.top, t1, t2, .top, .top, .top, .top, .top, .top, .top, .top, .top, .top, .top, t14, .top, .top, .top, .top, .top, .top, .top, .top, .top, .top, .top, .top, .top, .top, .top, .top, .top, .top, .top, .top, .top, .top, .top, .top, .top, .top, .top, .top, .top, .top, .top, .top, .top, .top, .top, .top, .top, .top, .top, .top, .top, .top, .top, .top, .top, .top, .top, .top, .top, .top, .top, .top, .top, .top, .top, .top, .top, .top, .top, .top, .top, .top, .top, .top, t79, t80, t81, .top, .top, .top, .top, .top, .top, .top, .top, .top, .top, .top, .top, .top, .top, .top, .top, .top, .top, .top, .top, .top, .top, .top, .top, .top]
def cf16L2 : C :=
 (.seq (.reg [⟨(some 82), (.bin .lss), [.t 81, .t 80], none, 0, 0⟩] false)
 (.seq (.cond (.t 82) .skip
  (.exit 4))
 (.seq (.block 5 (.seq (.reg [⟨(some 83), .mov, [.t 81], none, 0, 0⟩,
    ⟨(some 84), (.iad 2 true none), [.t 79, .t 81], none, 0, 0⟩,
    ⟨(some 85), (.load 2 true), [.t 84], none, 0, 0⟩,
    ⟨(some 16), (.alloc [(.int .i64 0), (.int .i64 0)] true), [], none, 0, 25⟩,
    ⟨(some 15), .mov, [.t 83], none, 0, 0⟩,
    ⟨none, (.store 2 true), [.t 16, .t 85], none, 0, 0⟩] false)
  (.seq (.seq (.reg [⟨(some 86), (.fad 0 1 false), [.t 16], none, 0, 0⟩,
    ⟨(some 87), (.load 1 false), [.t 86], none, 0, 0⟩,
    ⟨(some 88), (.bin .eql), [.t 87, .c (.int .i64 (-2))], none, 0, 0⟩] false)
  (.cond (.t 88) (.exit 5)
   .skip))
  (.seq (.reg [⟨(some 90), (.fad 3 1 false), [.t 2], none, 0, 0⟩,
    ⟨(some 91), (.load 1 false), [.t 90], none, 0, 0⟩,
    ⟨(some 92), .mov, [.t 15], none, 0, 0⟩,
    ⟨(some 93), (.iad 3 true none), [.t 91, .t 92], none, 0, 0⟩,
    ⟨(some 94), (.load 3 true), [.t 93], none, 0, 0⟩,
    ⟨(some 95), .mov, [.t 1], none, 0, 0⟩,
    ⟨(some 96), (.call 33 false false), [.t 94, .t 95], none, 0, 29⟩,
    ⟨(some 89), .mov, [.t 96], none, 0, 0⟩,
    ⟨(some 97), (.ext 0), [.t 89], none, 0, 0⟩,
    ⟨(some 98), (.ext 1), [.t 89], none, 0, 0⟩,
    ⟨(some 17), .mov, [.t 97], none, 0, 0⟩,
    ⟨(some 18), .mov, [.t 98], none, 0, 0⟩] false)
  (.seq (.seq (.reg [⟨(some 99), .mov, [.t 18], none, 0, 0⟩,
    ⟨(some 100), (.un .not), [.t 99], none, 0, 0⟩] false)
  (.cond (.t 100) (.seq (.reg [⟨(some 4), .mov, [.c (.sl true [] true)], none, 0, 0⟩,
     ⟨(some 5), .mov, [.c (.int .i64 3)], none, 0, 0⟩] false)
   .ret)
   .skip))
  (.reg [⟨(some 101), .mov, [.t 14], none, 0, 0⟩,
    ⟨(some 102), .mov, [.t 15], none, 0, 0⟩,
    ⟨(some 103), .mov, [.t 17], none, 0, 0⟩,
    ⟨(some 104), (.iad 1 false none), [.t 101, .t 102], none, 0, 0⟩,
    ⟨none, (.store 1 false), [.t 104, .t 103], none, 0, 0⟩] false))))))
 (.reg [⟨(some 105), (.bin .add), [.t 81, .c (.int .i64 1)], none, 0, 0⟩,
   ⟨(some 81), .mov, [.t 105], none, 0, 0⟩] false))))
def cf16 : CF := ⟨2, 107, [.inl 4, .inl 5],
 (.seq (.reg [⟨(some 2), .box, [.t 0], none, 0, 1⟩,
   ⟨(some 4), .mov, [.c (.sl true [] true)], none, 0, 0⟩,
   ⟨(some 5), .mov, [.c (.int .i64 0)], none, 0, 0⟩] false)
 (.seq (.reg [⟨(some 20), (.load 6 true), [.t 2], none, 0, 0⟩,
   ⟨(some 21), (.call 9 false false), [.t 20], none, 0, 5⟩,
   ⟨(some 19), .mov, [.t 21], none, 0, 0⟩,
   ⟨(some 22), (.ext 0), [.t 19], none, 0, 0⟩,
   ⟨(some 23), (.ext 1), [.t 19], none, 0, 0⟩,
   ⟨(some 6), .mov, [.t 22], none, 0, 0⟩,
   ⟨(some 7), .mov, [.t 23], none, 0, 0⟩] false)
 (.seq (.seq (.reg [⟨(some 24), .mov, [.t 7], none, 0, 0⟩,
   ⟨(some 25), (.bin .neq), [.t 24, .c (.int .i64 0)], none, 0, 0⟩] false)
 (.cond (.t 25) (.seq (.reg [⟨(some 26), .mov, [.t 7], none, 0, 0⟩,
    ⟨(some 4), .mov, [.c (.sl true [] true)], none, 0, 0⟩,
    ⟨(some 5), .mov, [.t 26], none, 0, 0⟩] false)
  .ret)
  .skip))
 (.seq (.seq (.reg [⟨(some 27), .mov, [.t 1], none, 0, 0⟩,
   ⟨(some 28), (.len 1), [.t 27], none, 0, 0⟩,
   ⟨(some 29), (.fad 0 1 false), [.t 2], none, 0, 0⟩,
   ⟨(some 30), (.load 1 false), [.t 29], none, 0, 0⟩,
   ⟨(some 31), (.len 1), [.t 30], none, 0, 0⟩,
   ⟨(some 32), (.bin .neq), [.t 28, .t 31], none, 0, 0⟩] false)
 (.cond (.t 32) (.seq (.reg [⟨(some 4), .mov, [.c (.sl true [] true)], none, 0, 0⟩,
    ⟨(some 5), .mov, [.c (.int .i64 1)], none, 0, 0⟩] false)
  .ret)
  .skip))
 (.seq (.seq (.reg [⟨(some 33), .mov, [.t 1], none, 0, 0⟩,
   ⟨(some 34), (.len 1), [.t 33], none, 0, 0⟩,
   ⟨(some 35), .mov, [.c (.int .i64 0)], none, 0, 0⟩] false)
 (.block 0 (.loop cf16L0 cf16M0)))
 (.seq (.seq (.reg [⟨(some 59), (.fad 1 1 false), [.t 2], none, 0, 0⟩,
   ⟨(some 60), (.load 1 false), [.t 59], none, 0, 0⟩,
   ⟨(some 61), (.len 1), [.t 60], none, 0, 0⟩,
   ⟨(some 62), .mov, [.c (.int .i64 0)], none, 0, 0⟩] false)
 (.block 2 (.loop cf16L1 cf16M1)))
 (.seq (.reg [⟨(some 75), (.fad 3 1 false), [.t 2], none, 0, 0⟩,
   ⟨(some 76), (.load 1 false), [.t 75], none, 0, 0⟩,
   ⟨(some 77), (.len 1), [.t 76], none, 0, 0⟩,
   ⟨(some 78), (.mks 1 false 8 [(.int .i64 0)]), [.t 77, .t 77], none, 0, 21⟩,
   ⟨(some 14), .mov, [.t 78], none, 0, 0⟩] false)
 (.seq (.seq (.reg [⟨(some 79), .mov, [.t 6], none, 0, 0⟩,
   ⟨(some 80), (.len 1), [.t 79], none, 0, 0⟩,
   ⟨(some 81), .mov, [.c (.int .i64 0)], none, 0, 0⟩] false)
 (.block 4 (.loop cf16L2 cf16M2)))
 (.seq (.reg [⟨(some 106), .mov, [.t 14], none, 0, 0⟩,
   ⟨(some 4), .mov, [.t 106], none, 0, 0⟩,
   ⟨(some 5), .mov, [.c (.int .i64 0)], none, 0, 0⟩] false)
 .ret)))))))))⟩
def cf18M0 : List Bool := [false, false, false, false, false, false, true, false, false, false, true, true, true, true, false, false, false, false, false, false, false, false, false, false, false, false, false, false, false, false, false, false, false, true, true, true, false, false, false, false, false, false, false, false, false, false, false, false, false, false, false, false, false, false, false, false, false, false, false, false, false, false, false, false, false, false]
def cf18E0 (t6 t10 t11 t12 t13 t33 t34 t35 : AV) : List AV := [.top, .top, .top, .top, .top, .top, t6, .top, .top, .top, t10, t11, t12, t13, .top, .top, .top, .top, .top, .top, .top, .top, .top, .top, .top, .top, .top, .top, .top, .top, .top, .top, .top, t33, t34, t35, .top, .top, .top, .top, .top, .top, .top, .top, .top, .top, .top, .top, .top, .top, .top, .top, .top, .top, .top, .top, .top, .top, .top, .top, .top, .top, .top, .top, .top, .top]
def cf18L0 : C :=
 (.seq (.seq (.reg [⟨(some 42), .mov, [.t 13], none, 0, 0⟩,
   ⟨(some 43), (.fad 1 1 false), [.t 12], none, 0, 0⟩,
   ⟨(some 44), (.load 1 false), [.t 43], none, 0, 0⟩,
   ⟨(some 45), (.bin .leq), [.t 42, .t 44], none, 0, 0⟩,
   ⟨(some 46), .mov, [.t 45], none, 0, 0⟩,
   ⟨(some 47), (.fad 0 1 false), [.t 12], (some (46, true)), 0, 0⟩,
   ⟨(some 48), (.load 1 false), [.t 47], (some (46, true)), 0, 0⟩,
   ⟨(some 49), (.bin .neq), [.t 48, .c (.int .i64 (-2))], (some (46, true)), 0, 0⟩,
   ⟨(some 50), .pick, [.t 46, .t 49, .c (.bool false)], none, 0, 0⟩] false)
 (.cond (.t 50) .skip
  (.exit 2)))
 (.seq (.block 3 (.reg [⟨(some 53), .mov, [.t 10], none, 0, 0⟩,
    ⟨(some 54), .mov, [.t 13], none, 0, 0⟩,
    ⟨(some 55), (.bin .add), [.t 54, .c (.int .i64 1)], none, 2, 0⟩,
    ⟨(some 56), (.iad 1 false none), [.t 53, .t 55], none, 7, 0⟩,
    ⟨(some 57), (.load 1 false), [.t 56], none, 15, 0⟩,
    ⟨(some 58), .mov, [.t 6], none, 0, 0⟩,
    ⟨(some 59), .mov, [.t 11], none, 0, 0⟩,
    ⟨(some 60), (.iad 1 false none), [.t 58, .t 59], none, 96, 0⟩,
    ⟨(some 61), (.load 1 false), [.t 60], none, 224, 0⟩,
    ⟨(some 62), (.bin .add), [.t 57, .t 61], none, 511, 0⟩,
    ⟨(some 63), (.iad 1 false none), [.t 53, .t 55], none, 1023, 0⟩,
    ⟨none, (.store 1 false), [.t 63, .t 62], none, 2047, 0⟩] true))
 (.reg [⟨(some 51), .mov, [.t 13], none, 0, 0⟩,
   ⟨(some 52), (.bin .add), [.t 51, .c (.int .i64 1)], none, 0, 0⟩,
   ⟨(some 13), .mov, [.t 52], none, 0, 0⟩] false)))
def cf18M1 : List Bool := [false, false, false, false, false, false, true, false, false, false, true, false, false, false, false, false, false, false, false, false, false, false, false, false, false, false, false, false, false, false, false, false, false, true, true, true, false, false, false, false, false, false, false, false, false, false, false, false, false, false, false, false, false, false, false, false, false, false, false, false, false, false, false, false, false, false]
def cf18E1 (t6 t10 t33 t34 t35 : AV) : List AV := [.top, .top, .top, .top, .top, .top, t6, .top, .top, .top, t10, .top, .top, .top, .top, .top, .top, .top, .top, .top, .top, .top, .top, .top, .top, .top, .top, .top, .top, .top, .top, .top, .top, t33, t34, t35, .top, .top, .top, .top, .top, .top, .top, .top, .top, .top, .top, .top, .top, .top, .top, .top, .top, .top, .top, .top, .top, .top, .top, .top, .top, .top, .top, .top, .top, .top]
def cf18L1 : C :=
 (.seq (.reg [⟨(some 36), (.bin .lss), [.t 35, .t 34], none, 0, 0⟩] false)
 (.seq (.cond (.t 36) .skip
  (.exit 0))
 (.seq (.block 1 (.seq (.reg [⟨(some 37), .mov, [.t 35], none, 0, 0⟩,
    ⟨(some 38), (.iad 2 true none), [.t 33, .t 35], none, 0, 0⟩,
    ⟨(some 39), (.load 2 true), [.t 38], none, 0, 0⟩,
    ⟨(some 12), (.alloc [(.int .i64 0), (.int .i64 0)] true), [], none, 0, 17⟩,
    ⟨(some 11), .mov, [.t 37], none, 0, 0⟩,
    ⟨none, (.store 2 true), [.t 12, .t 39], none, 0, 0⟩] false)
  (.seq (.reg [⟨(some 40), (.fad 0 1 false), [.t 12], none, 0, 0⟩,
    ⟨(some 41), (.load 1 false), [.t 40], none, 0, 0⟩,
    ⟨(some 13), .mov, [.t 41], none, 0, 0⟩] false)
  (.block 2 (.loop cf18L0 cf18M0)))))
 (.reg [⟨(some 64), (.bin .add), [.t 35, .c (.int .i64 1)], none, 0, 0⟩,
   ⟨(some 35), .mov, [.t 64], none, 0, 0⟩] false))))
def cf18 : CF := ⟨2, 66, [.inl 4, .inl 5],
 (.seq (.reg [⟨(some 2), .box, [.t 0], none, 0, 1⟩,
   ⟨(some 4), .mov, [.c (.sl true [] true)], none, 0, 0⟩,
   ⟨(some 5), .mov, [.c (.int .i64 0)], none, 0, 0⟩] false)
 (.seq (.reg [⟨(some 15), (.load 6 true), [.t 2], none, 0, 0⟩,
   ⟨(some 16), .mov, [.t 1], none, 0, 0⟩,
   ⟨(some 17), (.call 16 false false), [.t 15, .t 16], none, 0, 5⟩,
   ⟨(some 14), .mov, [.t 17], none, 0, 0⟩,
   ⟨(some 18), (.ext 0), [.t 14], none, 0, 0⟩,
   ⟨(some 19), (.ext 1), [.t 14], none, 0, 0⟩,
   ⟨(some 6), .mov, [.t 18], none, 0, 0⟩,
   ⟨(some 7), .mov, [.t 19], none, 0, 0⟩] false)
 (.seq (.seq (.reg [⟨(some 20), .mov, [.t 7], none, 0, 0⟩,
   ⟨(some 21), (.bin .neq), [.t 20, .c (.int .i64 0)], none, 0, 0⟩] false)
 (.cond (.t 21) (.seq (.reg [⟨(some 22), .mov, [.t 7], none, 0, 0⟩,
    ⟨(some 4), .mov, [.c (.sl true [] true)], none, 0, 0⟩,
    ⟨(some 5), .mov, [.t 22], none, 0, 0⟩] false)
  .ret)
  .skip))
 (.seq (.reg [⟨(some 24), (.load 6 true), [.t 2], none, 0, 0⟩,
   ⟨(some 25), (.call 9 false false), [.t 24], none, 0, 9⟩,
   ⟨(some 23), .mov, [.t 25], none, 0, 0⟩,
   ⟨(some 26), (.ext 0), [.t 23], none, 0, 0⟩,
   ⟨(some 27), (.ext 1), [.t 23], none, 0, 0⟩,
   ⟨(some 8), .mov, [.t 26], none, 0, 0⟩,
   ⟨(some 9), .mov, [.t 27], none, 0, 0⟩] false)
 (.seq (.reg [⟨(some 28), (.fad 4 1 false), [.t 2], none, 0, 0⟩,
   ⟨(some 29), (.load 1 false), [.t 28], none, 0, 0⟩,
   ⟨(some 30), (.len 1), [.t 29], none, 0, 0⟩,
   ⟨(some 31), (.bin .add), [.t 30, .c (.int .i64 2)], none, 0, 0⟩,
   ⟨(some 32), (.mks 1 false 8 [(.int .i64 0)]), [.t 31, .t 31], none, 0, 13⟩,
   ⟨(some 10), .mov, [.t 32], none, 0, 0⟩] false)
 (.seq (.seq (.reg [⟨(some 33), .mov, [.t 8], none, 0, 0⟩,
   ⟨(some 34), (.len 1), [.t 33], none, 0, 0⟩,
   ⟨(some 35), .mov, [.c (.int .i64 0)], none, 0, 0⟩] false)
 (.block 0 (.loop cf18L1 cf18M1)))
 (.seq (.reg [⟨(some 65), .mov, [.t 10], none, 0, 0⟩,
   ⟨(some 4), .mov, [.t 65], none, 0, 0⟩,
   ⟨(some 5), .mov, [.c (.int .i64 0)], none, 0, 0⟩] false)
 .ret)))))))⟩
def cf20 : CF := ⟨2, 19, [.inl 4, .inl 5],
 (.seq (.reg [⟨(some 2), .box, [.t 0], none, 0, 1⟩,
   ⟨(some 4), .mov, [.c (.int .i64 0)], none, 0, 0⟩,
   ⟨(some 5), .mov, [.c (.int .i64 0)], none, 0, 0⟩] false)
 (.seq (.reg [⟨(some 9), (.load 6 true), [.t 2], none, 0, 0⟩,
   ⟨(some 10), .mov, [.t 1], none, 0, 0⟩,
   ⟨(some 11), (.call 18 false false), [.t 9, .t 10], none, 0, 5⟩,
   ⟨(some 8), .mov, [.t 11], none, 0, 0⟩,
   ⟨(some 12), (.ext 0), [.t 8], none, 0, 0⟩,
   ⟨(some 13), (.ext 1), [.t 8], none, 0, 0⟩,
   ⟨(some 6), .mov, [.t 12], none, 0, 0⟩,
   ⟨(some 7), .mov, [.t 13], none, 0, 0⟩] false)
 (.seq (.seq (.reg [⟨(some 14), .mov, [.t 7], none, 0, 0⟩,
   ⟨(some 15), (.bin .neq), [.t 14, .c (.int .i64 0)], none, 0, 0⟩] false)
 (.cond (.t 15) (.seq (.reg [⟨(some 16), .mov, [.t 7], none, 0, 0⟩,
    ⟨(some 4), .mov, [.c (.int .i64 0)], none, 0, 0⟩,
    ⟨(some 5), .mov, [.t 16], none, 0, 0⟩] false)
  .ret)
  .skip))
 (.seq (.reg [⟨(some 17), .mov, [.t 6], none, 0, 0⟩,
   ⟨(some 18), (.call 36 false false), [.t 17], none, 0, 9⟩,
   ⟨(some 4), .mov, [.t 18], none, 0, 0⟩,
   ⟨(some 5), .mov, [.c (.int .i64 0)], none, 0, 0⟩] false)
 .ret))))⟩
def cf23M0 : List Bool := [false, true, false, false, false, false, false, true, true, true, false, false, false, false, false, false, false]
def cf23E0 (t1 t7 t8 t9 : AV) : List AV := [.top, t1, .top, .top, .top, .top, .top, t7, t8, t9, .top, .top, .top, .top, .top, .top, .top]
def cf23L0 : C :=
 (.seq (.reg [⟨(some 10), (.bin .lss), [.t 9, .t 8], none, 0, 0⟩] false)
 (.seq (.cond (.t 10) .skip
  (.exit 0))
 (.seq (.block 1 (.seq (.reg [⟨(some 11), (.iad 1 false none), [.t 7, .t 9], none, 0, 0⟩,
    ⟨(some 12), (.load 1 false), [.t 11], none, 0, 0⟩,
    ⟨(some 6), .mov, [.t 12], none, 0, 0⟩] false)
  (.seq (.reg [⟨(some 13), .mov, [.t 6], none, 0, 0⟩,
    ⟨(some 14), .mov, [.t 1], none, 0, 0⟩,
    ⟨(some 15), (.bin .eql), [.t 13, .t 14], none, 0, 0⟩] false)
  (.cond (.t 15) (.seq (.reg [⟨(some 4), .mov, [.c (.bool true)], none, 0, 0⟩] false)
   .ret)
   .skip))))
 (.reg [⟨(some 16), (.bin .add), [.t 9, .c (.int .i64 1)], none, 0, 0⟩,
   ⟨(some 9), .mov, [.t 16], none, 0, 0⟩] false))))
def cf23 : CF := ⟨2, 17, [.inl 4],
 (.seq (.reg [⟨(some 4), .mov, [.c (.bool false)], none, 0, 0⟩] false)
 (.seq (.seq (.reg [⟨(some 7), .mov, [.t 0], none, 0, 0⟩,
   ⟨(some 8), (.len 1), [.t 7], none, 0, 0⟩,
   ⟨(some 9), .mov, [.c (.int .i64 0)], none, 0, 0⟩] false)
 (.block 0 (.loop cf23L0 cf23M0)))
 (.seq (.reg [⟨(some 4), .mov, [.c (.bool false)], none, 0, 0⟩] false)
 .ret)))⟩
def cf24 : CF := ⟨0, 33, [.inr (0, 6, true)],
 (.seq (.reg [⟨(some 0), (.alloc [(.sl true [] true), (.sl true [] true), (.int .i64 0), (.sl true [] true), (.sl true [] true), (.sl true [] true)] true), [], none, 0, 1⟩] false)
 (.seq (.reg [⟨(some 5), (.build [(.str []), (.int .i64 0)] [(0, 1), (1, 1)]), [.c (.str [110]), .c (.int .i64 1)], none, 0, 0⟩,
   ⟨(some 6), (.mkSl 2 true false), [.t 5], none, 0, 0⟩,
   ⟨(some 7), (.build [(.int .i64 0), (.sl true [] true)] [(1, 1)]), [.t 6], none, 0, 0⟩,
   ⟨(some 1), (.alloc [(.int .i64 0), (.sl true [] true)] true), [], none, 0, 5⟩,
   ⟨none, (.store 2 true), [.t 1, .t 7], none, 0, 0⟩] false)
 (.seq (.reg [⟨(some 8), (.build [(.str []), (.int .i64 0)] [(0, 1), (1, 1)]), [.c (.str [105, 48]), .c (.int .i64 1)], none, 0, 0⟩,
   ⟨(some 9), (.mkSl 2 true false), [.t 8], none, 0, 0⟩,
   ⟨(some 10), (.build [(.int .i64 0), (.sl true [] true)] [(1, 1)]), [.t 9], none, 0, 0⟩,
   ⟨(some 2), (.alloc [(.int .i64 0), (.sl true [] true)] true), [], none, 0, 9⟩,
   ⟨none, (.store 2 true), [.t 2, .t 10], none, 0, 0⟩] false)
 (.seq (.reg [⟨(some 11), (.load 2 true), [.t 1], none, 0, 0⟩,
   ⟨(some 12), (.mkSl 2 true false), [.t 11], none, 0, 0⟩,
   ⟨(some 13), (.build [(.str []), (.sl true [] true)] [(1, 1)]), [.t 12], none, 0, 0⟩,
   ⟨(some 14), (.build [(.str []), (.str []), (.sl true [] true)] [(0, 1), (1, 2)]), [.c (.str [105, 110, 116]), .t 13], none, 0, 0⟩,
   ⟨(some 3), (.alloc [(.str []), (.str []), (.sl true [] true)] true), [], none, 0, 13⟩,
   ⟨none, (.store 3 true), [.t 3, .t 14], none, 0, 0⟩] false)
 (.seq (.reg [⟨(some 15), (.mkf 39), [.t 2], none, 0, 0⟩,
   ⟨(some 4), .mov, [.t 15], none, 0, 0⟩] false)
 (.seq (.reg [⟨(some 16), (.mkSl 1 false false), [.c (.str [110])], none, 0, 0⟩,
   ⟨(some 17), (.load 3 true), [.t 3], none, 0, 0⟩,
   ⟨(some 18), (.load 3 true), [.t 3], none, 0, 0⟩,
   ⟨(some 19), (.load 3 true), [.t 3], none, 0, 0⟩,
   ⟨(some 20), (.mkSl 3 true false), [.t 17, .t 18, .t 19], none, 14, 0⟩,
   ⟨(some 21), (.load 2 true), [.t 1], none, 0, 0⟩,
   ⟨(some 22), (.mkSl 2 true false), [.t 21], none, 32, 0⟩,
   ⟨(some 23), .mov, [.t 4], none, 0, 0⟩,
   ⟨(some 24), (.callv false false), [.t 23, .c (.int .i64 0)], none, 128, 17⟩,
   ⟨(some 25), .mov, [.t 4], none, 0, 0⟩,
   ⟨(some 26), (.callv false false), [.t 25, .c (.int .i64 1)], none, 896, 21⟩,
   ⟨(some 27), (.mkSl 9 true false), [.t 24, .t 26], none, 1920, 0⟩,
   ⟨(some 28), (.build [(.str []), (.int .i64 0), (.int .i64 0), (.str []), (.sl true [] true), (.bool false), (.int .i64 0), (.sl true [] true), (.sl true [] true)] [(0, 1), (8, 1)]), [.c (.str [97, 100, 100]), .t 27], none, 3968, 0⟩,
   ⟨(some 29), (.build [(.int .i64 0), (.int .i64 0), (.sl true [] true), (.str []), (.int .i64 0), (.int .i64 0), (.str []), (.sl true [] true), (.bool false), (.int .i64 0), (.sl true [] true), (.sl true [] true), (.sl true [] true), (.int .i64 0), (.str []), (.int .i64 0), (.int .i64 0), (.str []), (.sl true [] true), (.bool false), (.int .i64 0), (.sl true [] true), (.sl true [] true), (.int .i64 0)] [(0, 1), (1, 1), (2, 1), (3, 9)]), [.c (.int .i64 1), .c (.int .i64 2), .t 22, .t 28], none, 8160, 0⟩,
   ⟨(some 30), (.mkSl 24 true false), [.t 29], none, 16352, 0⟩,
   ⟨(some 31), (.mkSl 1 false false), [.c (.int .i64 2)], none, 0, 0⟩,
   ⟨(some 32), (.build [(.sl true [] true), (.sl true [] true), (.int .i64 0), (.sl true [] true), (.sl true [] true), (.sl true [] true)] [(0, 1), (2, 1), (3, 1), (4, 1), (5, 1)]), [.t 16, .c (.int .i64 2), .t 20, .t 30, .t 31], none, 65535, 0⟩,
   ⟨none, (.store 6 true), [.t 0, .t 32], none, 131071, 0⟩] true)
 .ret))))))⟩
def cf25 : CF := ⟨1, 10, [.inl 2],
 (.seq (.reg [⟨(some 1), .box, [.t 0], none, 0, 1⟩,
   ⟨(some 2), .mov, [.c (.bool false)], none, 0, 0⟩] false)
 (.seq (.reg [⟨(some 3), (.load 9 true), [.t 1], none, 0, 0⟩,
   ⟨(some 4), (.call 40 false false), [.t 3], none, 0, 5⟩,
   ⟨(some 5), (.bin .leq), [.t 4, .c (.int .i64 60)], none, 0, 0⟩,
   ⟨(some 6), .mov, [.t 5], none, 0, 0⟩,
   ⟨(some 7), (.load 9 true), [.t 1], (some (6, true)), 0, 0⟩,
   ⟨(some 8), (.call 41 false false), [.t 7], (some (6, true)), 0, 9⟩,
   ⟨(some 9), .pick, [.t 6, .t 8, .c (.bool false)], none, 0, 0⟩,
   ⟨(some 2), .mov, [.t 9], none, 0, 0⟩] false)
 .ret))⟩
def cf26M0 : List Bool := [true, false, false, true, false, false, false, false, false, false, false, false, false, false, false, false, false, false, false, false, false, false, false, false, false, false, false, false, false]
def cf26E0 (t0 t3 : AV) : List AV := [t0, .top, .top, t3, .top, .top, .top, .top, .top, .top, .top, .top, .top, .top, .top, .top, .top, .top, .top, .top, .top, .top, .top, .top, .top, .top, .top, .top, .top]
def cf26L0 : C :=
 (.seq (.seq (.reg [⟨(some 4), .mov, [.t 3], none, 0, 0⟩,
   ⟨(some 5), .mov, [.t 0], none, 0, 0⟩,
   ⟨(some 6), (.len 1), [.t 5], none, 0, 0⟩,
   ⟨(some 7), (.bin .lss), [.t 4, .t 6], none, 0, 0⟩] false)
 (.cond (.t 7) .skip
  (.exit 0)))
 (.seq (.block 1 (.seq (.reg [⟨(some 10), .mov, [.t 0], none, 0, 0⟩,
    ⟨(some 11), .mov, [.t 3], none, 0, 0⟩,
    ⟨(some 12), (.iad 3 true none), [.t 10, .t 11], none, 0, 0⟩,
    ⟨(some 13), (.fad 2 1 false), [.t 12], none, 0, 0⟩,
    ⟨(some 14), (.load 1 false), [.t 13], none, 0, 0⟩,
    ⟨(some 15), (.len 1), [.t 14], none, 0, 0⟩,
    ⟨(some 16), (.bin .gtr), [.t 15, .c (.int .i64 4)], none, 0, 0⟩,
    ⟨(some 17), .mov, [.t 16], none, 0, 0⟩,
    ⟨(some 18), .mov, [.t 0], (some (17, false)), 0, 0⟩,
    ⟨(some 19), .mov, [.t 3], (some (17, false)), 0, 0⟩,
    ⟨(some 20), (.iad 3 true none), [.t 18, .t 19], (some (17, false)), 0, 0⟩,
    ⟨(some 21), (.fad 0 1 false), [.t 20], (some (17, false)), 0, 0⟩,
    ⟨(some 22), (.load 1 false), [.t 21], (some (17, false)), 0, 0⟩,
    ⟨(some 23), (.len 0), [.t 22], (some (17, false)), 0, 0⟩,
    ⟨(some 24), (.bin .gtr), [.t 23, .c (.int .i64 20)], (some (17, false)), 0, 0⟩,
    ⟨(some 25), .pick, [.t 17, .c (.bool true), .t 24], none, 0, 0⟩] false)
  (.cond (.t 25) (.seq (.reg [⟨(some 2), .mov, [.c (.bool false)], none, 0, 0⟩] false)
   .ret)
   .skip)))
 (.reg [⟨(some 8), .mov, [.t 3], none, 0, 0⟩,
   ⟨(some 9), (.bin .add), [.t 8, .c (.int .i64 1)], none, 0, 0⟩,
   ⟨(some 3), .mov, [.t 9], none, 0, 0⟩] false)))
def cf26 : CF := ⟨1, 29, [.inl 2],
 (.seq (.reg [⟨(some 2), .mov, [.c (.bool false)], none, 0, 0⟩] false)
 (.seq (.seq (.reg [⟨(some 3), .mov, [.c (.int .i64 0)], none, 0, 0⟩] false)
 (.block 0 (.loop cf26L0 cf26M0)))
 (.seq (.reg [⟨(some 26), .mov, [.t 0], none, 0, 0⟩,
   ⟨(some 27), (.len 1), [.t 26], none, 0, 0⟩,
   ⟨(some 28), (.bin .leq), [.t 27, .c (.int .i64 10)], none, 0, 0⟩,
   ⟨(some 2), .mov, [.t 28], none, 0, 0⟩] false)
 .ret)))⟩
def cf27 : CF := ⟨1, 12, [.inl 2],
 (.seq (.reg [⟨(some 1), .box, [.t 0], none, 0, 1⟩,
   ⟨(some 2), .mov, [.c (.bool false)], none, 0, 0⟩] false)
 (.seq (.reg [⟨(some 3), (.fad 0 1 false), [.t 1], none, 0, 0⟩,
   ⟨(some 4), (.load 1 false), [.t 3], none, 0, 0⟩,
   ⟨(some 5), (.len 0), [.t 4], none, 0, 0⟩,
   ⟨(some 6), (.bin .leq), [.t 5, .c (.int .i64 35)], none, 0, 0⟩,
   ⟨(some 7), .mov, [.t 6], none, 0, 0⟩,
   ⟨(some 8), (.fad 1 2 true), [.t 1], (some (7, true)), 0, 0⟩,
   ⟨(some 9), (.load 2 true), [.t 8], (some (7, true)), 0, 0⟩,
   ⟨(some 10), (.call 42 false false), [.t 9], (some (7, true)), 0, 5⟩,
   ⟨(some 11), .pick, [.t 7, .t 10, .c (.bool false)], none, 0, 0⟩,
   ⟨(some 2), .mov, [.t 11], none, 0, 0⟩] false)
 .ret))⟩
def cf28M0 : List Bool := [false, true, false, false, true, false, false, false, false, false, false, false, false, false, false, false, false, false, false, true, true, false, false, false, false, false, false, false, false, false, false, false, false, false, false, false, false, false, false, false, false, false, false, false, false, false, false, false, false, false, false, false, false, false, false, false, false, false, false, false, false, false, false, false, false, false, false, false, false, false, false, false, false]
def cf28E0 (t1 t4 t19 t20 : AV) : List AV := [.top, t1, .top, .top, t4, .top, .top, .top, .top, .top, .top, .top, .top, .top, .top, .top, .top, .top, .top, t19, t20, .top, .top, .top, .top, .top, .top, .top, .top, .top, .top, .top, .top, .top, .top, .top, .top, .top, .top, .top, .top, .top, .top, .top, .top, .top, .top, .top, .top, .top, .top, .top, .top, .top, .top, .top, .top, .top, .top, .top, .top, .top, .top, .top, .top, .top, .top, .top, .top, .top, .top, .top, .top]
def cf28L0 : C :=
 (.seq (.reg [⟨(some 21), (.bin .lss), [.t 20, .t 19], none, 0, 0⟩] false)
 (.seq (.cond (.t 21) .skip
  (.exit 0))
 (.seq (.block 1 (.seq (.reg [⟨(some 22), .mov, [.t 20], none, 0, 0⟩,
    ⟨(some 5), .mov, [.t 22], none, 0, 0⟩] false)
  (.reg [⟨(some 23), (.load 1 false), [.t 4], none, 0, 0⟩,
    ⟨(some 24), .nilc, [.t 23], none, 0, 0⟩,
    ⟨(some 25), (.fad 6 1 false), [.t 24], none, 0, 0⟩,
    ⟨(some 26), (.load 1 false), [.t 25], none, 0, 0⟩,
    ⟨(some 27), .mov, [.t 5], none, 0, 0⟩,
    ⟨(some 28), (.iad 1 false none), [.t 26, .t 27], none, 0, 0⟩,
    ⟨none, (.store 1 false), [.t 28, .c (.bool true)], none, 0, 0⟩] false)))
 (.reg [⟨(some 29), (.bin .add), [.t 20, .c (.int .i64 1)], none, 0, 0⟩,
   ⟨(some 20), .mov, [.t 29], none, 0, 0⟩] false))))
def cf28M1 : List Bool := [false, true, false, false, true, false, false, false, false, false, false, false, false, false, false, false, false, false, false, false, false, false, false, false, false, false, false, false, false, false, false, true, true, true, false, false, false, false, false, false, false, false, false, false, false, false, false, false, false, false, false, false, false, false, false, false, false, false, false, false, false, false, false, false, false, false, false, false, false, false, false, false, false]
def cf28E1 (t1 t4 t31 t32 t33 : AV) : List AV := [.top, t1, .top, .top, t4, .top, .top, .top, .top, .top, .top, .top, .top, .top, .top, .top, .top, .top, .top, .top, .top, .top, .top, .top, .top, .top, .top, .top, .top, .top, .top, t31, t32, t33, .top, .top, .top, .top, .top, .top, .top, .top, .top, .top, .top, .top, .top, .top, .top, .top, .top, .top, .top, .top, .top, .top, .top, .top, .top, .top, .top, .top, .top, .top, .top, .top, .top, .top, .top, .top, .top, .top, .top]
def cf28L1 : C :=
 (.seq (.reg [⟨(some 34), (.bin .lss), [.t 33, .t 32], none, 0, 0⟩] false)
 (.seq (.cond (.t 34) .skip
  (.exit 2))
 (.seq (.block 3 (.seq (.reg [⟨(some 35), .mov, [.t 33], none, 0, 0⟩,
    ⟨(some 36), (.iad 24 true none), [.t 31, .t 33], none, 0, 0⟩,
    ⟨(some 37), (.load 24 true), [.t 36], none, 0, 0⟩,
    ⟨(some 7), (.alloc [(.int .i64 0), (.int .i64 0), (.sl true [] true), (.str []), (.int .i64 0), (.int .i64 0), (.str []), (.sl true [] true), (.bool false), (.int .i64 0), (.sl true [] true), (.sl true [] true), (.sl true [] true), (.int .i64 0), (.str []), (.int .i64 0), (.int .i64 0), (.str []), (.sl true [] true), (.bool false), (.int .i64 0), (.sl true [] true), (.sl true [] true), (.int .i64 0)] true), [], none, 0, 21⟩,
    ⟨(some 6), .mov, [.t 35], none, 0, 0⟩,
    ⟨none, (.store 24 true), [.t 7, .t 37], none, 0, 0⟩] false)
  (.seq (.seq (.reg [⟨(some 38), (.load 1 false), [.t 4], none, 0, 0⟩,
    ⟨(some 39), .mov, [.t 6], none, 0, 0⟩,
    ⟨(some 40), (.call 44 false false), [.t 38, .t 39], none, 0, 25⟩,
    ⟨(some 41), (.un .not), [.t 40], none, 0, 0⟩] false)
  (.cond (.t 41) (.seq (.reg [⟨(some 42), .mov, [.t 6], none, 0, 0⟩,
     ⟨(some 2), .mov, [.t 42], none, 0, 0⟩,
     ⟨(some 3), .mov, [.c (.int .i64 22)], none, 0, 0⟩] false)
   .ret)
   .skip))
  (.reg [⟨(some 43), (.load 1 false), [.t 4], none, 0, 0⟩,
    ⟨(some 44), .nilc, [.t 43], none, 1, 0⟩,
    ⟨(some 45), (.fad 6 1 false), [.t 44], none, 3, 0⟩,
    ⟨(some 46), (.load 1 false), [.t 45], none, 7, 0⟩,
    ⟨(some 47), (.fad 1 1 false), [.t 7], none, 0, 0⟩,
    ⟨(some 48), (.load 1 false), [.t 47], none, 16, 0⟩,
    ⟨(some 49), (.iad 1 false none), [.t 46, .t 48], none, 63, 0⟩,
    ⟨none, (.store 1 false), [.t 49, .c (.bool true)], none, 127, 0⟩] true))))
 (.reg [⟨(some 50), (.bin .add), [.t 33, .c (.int .i64 1)], none, 0, 0⟩,
   ⟨(some 33), .mov, [.t 50], none, 0, 0⟩] false))))
def cf28 : CF := ⟨1, 73, [.inl 2, .inl 3],
 (.seq (.reg [⟨(some 1), .box, [.t 0], none, 0, 1⟩,
   ⟨(some 2), .mov, [.c (.int .i64 0)], none, 0, 0⟩,
   ⟨(some 3), .mov, [.c (.int .i64 0)], none, 0, 0⟩] false)
 (.seq (.seq (.reg [⟨(some 8), (.load 6 true), [.t 1], none, 0, 0⟩,
   ⟨(some 9), (.call 43 false false), [.t 8], none, 0, 5⟩,
   ⟨(some 10), (.un .not), [.t 9], none, 0, 0⟩] false)
 (.cond (.t 10) (.seq (.reg [⟨(some 2), .mov, [.c (.int .i64 (-1))], none, 0, 0⟩,
    ⟨(some 3), .mov, [.c (.int .i64 22)], none, 0, 0⟩] false)
  .ret)
  .skip))
 (.seq (.reg [⟨(some 11), (.load 6 true), [.t 1], none, 0, 0⟩,
   ⟨(some 12), (.fad 3 1 false), [.t 1], none, 0, 0⟩,
   ⟨(some 13), (.load 1 false), [.t 12], none, 2, 0⟩,
   ⟨(some 14), (.len 1), [.t 13], none, 6, 0⟩,
   ⟨(some 15), (.mks 1 false 1 [(.bool false)]), [.t 14, .t 14], none, 14, 9⟩,
   ⟨(some 16), (.build [(.sl true [] true), (.sl true [] true), (.int .i64 0), (.sl true [] true), (.sl true [] true), (.sl true [] true), (.sl true [] true), (.int .i64 0)] [(0, 6), (6, 1)]), [.t 11, .t 15], none, 31, 0⟩,
   ⟨(some 17), .box, [.t 16], none, 63, 13⟩,
   ⟨(some 4), (.alloc [.nilp] false), [], none, 0, 17⟩,
   ⟨none, (.store 1 false), [.t 4, .t 17], none, 255, 0⟩] true)
 (.seq (.seq (.reg [⟨(some 18), (.fad 2 1 false), [.t 1], none, 0, 0⟩,
   ⟨(some 19), (.load 1 false), [.t 18], none, 0, 0⟩,
   ⟨(some 20), .mov, [.c (.int .i64 0)], none, 0, 0⟩] false)
 (.block 0 (.loop cf28L0 cf28M0)))
 (.seq (.seq (.reg [⟨(some 30), (.fad 4 1 false), [.t 1], none, 0, 0⟩,
   ⟨(some 31), (.load 1 false), [.t 30], none, 0, 0⟩,
   ⟨(some 32), (.len 1), [.t 31], none, 0, 0⟩,
   ⟨(some 33), .mov, [.c (.int .i64 0)], none, 0, 0⟩] false)
 (.block 2 (.loop cf28L1 cf28M1)))
 (.seq (.seq (.reg [⟨(some 51), (.fad 5 1 false), [.t 1], none, 0, 0⟩,
   ⟨(some 52), (.load 1 false), [.t 51], none, 0, 0⟩,
   ⟨(some 53), (.len 1), [.t 52], none, 0, 0⟩,
   ⟨(some 54), (.bin .lss), [.t 53, .c (.int .i64 1)], none, 0, 0⟩,
   ⟨(some 55), .mov, [.t 54], none, 0, 0⟩,
   ⟨(some 56), (.fad 5 1 false), [.t 1], (some (55, false)), 0, 0⟩,
   ⟨(some 57), (.load 1 false), [.t 56], (some (55, false)), 0, 0⟩,
   ⟨(some 58), (.len 1), [.t 57], (some (55, false)), 0, 0⟩,
   ⟨(some 59), (.bin .gtr), [.t 58, .c (.int .i64 8)], (some (55, false)), 0, 0⟩,
   ⟨(some 60), .pick, [.t 55, .c (.bool true), .t 59], none, 0, 0⟩,
   ⟨(some 61), .mov, [.t 60], none, 0, 0⟩,
   ⟨(some 62), (.fad 5 1 false), [.t 1], (some (61, false)), 0, 0⟩,
   ⟨(some 63), (.load 1 false), [.t 62], (some (61, false)), 0, 0⟩,
   ⟨(some 64), (.mkf 46), [.t 1, .t 4], (some (61, false)), 0, 0⟩,
   ⟨(some 65), (.call 45 false false), [.t 63, .t 64], (some (61, false)), 0, 29⟩,
   ⟨(some 66), .pick, [.t 61, .c (.bool true), .t 65], none, 0, 0⟩] false)
 (.cond (.t 66) (.seq (.reg [⟨(some 67), (.fad 4 1 false), [.t 1], none, 0, 0⟩,
    ⟨(some 68), (.load 1 false), [.t 67], none, 0, 0⟩,
    ⟨(some 69), (.len 1), [.t 68], none, 0, 0⟩,
    ⟨(some 2), .mov, [.t 69], none, 0, 0⟩,
    ⟨(some 3), .mov, [.c (.int .i64 22)], none, 0, 0⟩] false)
  .ret)
  .skip))
 (.seq (.reg [⟨(some 70), (.fad 4 1 false), [.t 1], none, 0, 0⟩,
   ⟨(some 71), (.load 1 false), [.t 70], none, 0, 0⟩,
   ⟨(some 72), (.len 1), [.t 71], none, 0, 0⟩,
   ⟨(some 2), .mov, [.t 72], none, 0, 0⟩,
   ⟨(some 3), .mov, [.c (.int .i64 0)], none, 0, 0⟩] false)
 .ret)))))))⟩
def cf29M0 : List Bool := [false, false, false, false, false, false, false, true, true, false, false, false, false, false, false, false, false, false, false, false, false, false, false, false, false, false, false, false, false, false, false, false, false, false, false, false, false, false, false, false, false, false, false, false, false, false, false, false]
def cf29E0 (t7 t8 : AV) : List AV := [.top, .top, .top, .top, .top, .top, .top, t7, t8, .top, .top, .top, .top, .top, .top, .top, .top, .top, .top, .top, .top, .top, .top, .top, .top, .top, .top, .top, .top, .top, .top, .top, .top, .top, .top, .top, .top, .top, .top, .top, .top, .top, .top, .top, .top, .top, .top, .top]
def cf29L0 : C :=
 (.seq (.seq (.reg [⟨(some 34), .mov, [.t 8], none, 0, 0⟩,
   ⟨(some 35), .mov, [.t 7], none, 0, 0⟩,
   ⟨(some 36), (.len 1), [.t 35], none, 0, 0⟩,
   ⟨(some 37), (.bin .lss), [.t 34, .t 36], none, 0, 0⟩] false)
 (.cond (.t 37) .skip
  (.exit 0)))
 (.block 1 (.reg [⟨(some 38), .mov, [.t 8], none, 0, 0⟩,
    ⟨(some 39), .mov, [.t 7], none, 0, 0⟩,
    ⟨(some 40), .mov, [.t 8], none, 0, 0⟩,
    ⟨(some 41), (.slc 2 true false false), [.t 39, .t 40], none, 6, 0⟩,
    ⟨(some 42), .mov, [.t 7], none, 0, 0⟩,
    ⟨(some 43), .mov, [.t 8], none, 0, 0⟩,
    ⟨(some 44), (.slc 2 false true false), [.t 42, .t 43], none, 48, 0⟩,
    ⟨(some 45), (.cpy 2 true), [.t 41, .t 44], none, 126, 0⟩,
    ⟨(some 46), (.bin .add), [.t 38, .t 45], none, 255, 0⟩,
    ⟨(some 8), .mov, [.t 46], none, 511, 0⟩] true)))
def cf29 : CF := ⟨2, 48, [.inl 4],
 (.seq (.reg [⟨(some 4), .mov, [.c (.sl true [] true)], none, 0, 0⟩] false)
 (.seq (.seq (.reg [⟨(some 9), .mov, [.t 1], none, 0, 0⟩,
   ⟨(some 10), (.bin .lss), [.t 9, .c (.int .i64 0)], none, 0, 0⟩] false)
 (.cond (.t 10) (.reg [⟨(some 11), .mki, [.c (.str [99, 97, 110, 110, 111, 116, 32, 98, 101, 32, 110, 101, 103, 97, 116, 105, 118, 101])], none, 0, 0⟩,
    ⟨none, .bad, [], none, 0, 0⟩] false)
  .skip))
 (.seq (.reg [⟨(some 13), .mov, [.t 0], none, 0, 0⟩,
   ⟨(some 14), (.len 1), [.t 13], none, 0, 0⟩,
   ⟨(some 15), (.cvi .u64), [.t 14], none, 0, 0⟩,
   ⟨(some 16), .mov, [.t 1], none, 0, 0⟩,
   ⟨(some 17), (.cvi .u64), [.t 16], none, 0, 0⟩,
   ⟨(some 18), (.call 47 false false), [.t 15, .t 17], none, 0, 1⟩,
   ⟨(some 12), .mov, [.t 18], none, 0, 0⟩,
   ⟨(some 19), (.ext 0), [.t 12], none, 0, 0⟩,
   ⟨(some 20), (.ext 1), [.t 12], none, 0, 0⟩,
   ⟨(some 5), .mov, [.t 19], none, 0, 0⟩,
   ⟨(some 6), .mov, [.t 20], none, 0, 0⟩] false)
 (.seq (.seq (.reg [⟨(some 21), .mov, [.t 5], none, 0, 0⟩,
   ⟨(some 22), (.bin .gtr), [.t 21, .c (.int .u64 0)], none, 0, 0⟩,
   ⟨(some 23), .mov, [.t 22], none, 0, 0⟩,
   ⟨(some 24), .mov, [.t 6], (some (23, false)), 0, 0⟩,
   ⟨(some 25), (.bin .gtr), [.t 24, .c (.int .u64 9223372036854775807)], (some (23, false)), 0, 0⟩,
   ⟨(some 26), .pick, [.t 23, .c (.bool true), .t 25], none, 0, 0⟩] false)
 (.cond (.t 26) (.reg [⟨(some 27), .mki, [.c (.str [116, 104, 101, 32, 114, 101, 115, 117, 108, 116, 32, 111, 102, 32, 40, 108, 101, 110, 40, 120, 41, 32, 42, 32, 99, 111, 117, 110, 116, 41, 32, 111, 118, 101, 114, 102, 108, 111, 119, 115])], none, 0, 0⟩,
    ⟨none, .bad, [], none, 0, 0⟩] false)
  .skip))
 (.seq (.reg [⟨(some 28), .mov, [.t 6], none, 0, 0⟩,
   ⟨(some 29), (.cvi .i64), [.t 28], none, 0, 0⟩,
   ⟨(some 30), (.mks 2 true 16 [(.int .i64 0), (.int .i64 0)]), [.t 29, .t 29], none, 0, 5⟩,
   ⟨(some 7), .mov, [.t 30], none, 0, 0⟩] false)
 (.seq (.reg [⟨(some 31), .mov, [.t 7], none, 0, 0⟩,
   ⟨(some 32), .mov, [.t 0], none, 0, 0⟩,
   ⟨(some 33), (.cpy 2 true), [.t 31, .t 32], none, 0, 0⟩,
   ⟨(some 8), .mov, [.t 33], none, 0, 0⟩] false)
 (.seq (.block 0 (.loop cf29L0 cf29M0))
 (.seq (.reg [⟨(some 47), .mov, [.t 7], none, 0, 0⟩,
   ⟨(some 4), .mov, [.t 47], none, 0, 0⟩] false)
 .ret))))))))⟩
def cf30 : CF := ⟨1, 20, [.inl 2],
 (.seq (.reg [⟨(some 1), .box, [.t 0], none, 0, 1⟩,
   ⟨(some 2), .mov, [.c (.sl true [] true)], none, 0, 0⟩] false)
 (.seq (.reg [⟨(some 4), (.fad 3 9 true), [.t 1], none, 0, 0⟩,
   ⟨(some 5), (.load 9 true), [.t 4], none, 0, 0⟩,
   ⟨(some 6), (.call 48 true false), [.t 5], none, 0, 5⟩,
   ⟨(some 3), .mov, [.t 6], none, 0, 0⟩] false)
 (.seq (.seq (.reg [⟨(some 7), (.fad 0 1 false), [.t 1], none, 0, 0⟩,
   ⟨(some 8), (.load 1 false), [.t 7], none, 0, 0⟩,
   ⟨(some 9), (.bin .eql), [.t 8, .c (.int .i64 3)], none, 0, 0⟩] false)
 (.cond (.t 9) (.reg [⟨(some 10), .mov, [.t 3], none, 0, 0⟩,
    ⟨(some 11), (.fad 14 9 true), [.t 1], none, 0, 0⟩,
    ⟨(some 12), (.load 9 true), [.t 11], none, 2, 0⟩,
    ⟨(some 13), (.call 48 false false), [.t 12], none, 6, 9⟩,
    ⟨(some 14), (.app 1 false 8), [.t 10, .t 13], none, 15, 13⟩,
    ⟨(some 15), (.fad 13 1 false), [.t 1], none, 0, 0⟩,
    ⟨(some 16), (.load 1 false), [.t 15], none, 32, 0⟩,
    ⟨(some 17), (.mkSl 1 false false), [.t 16], none, 96, 0⟩,
    ⟨(some 18), (.app 1 false 8), [.t 14, .t 17], none, 255, 17⟩,
    ⟨(some 3), .mov, [.t 18], none, 511, 0⟩] true)
  .skip))
 (.seq (.reg [⟨(some 19), .mov, [.t 3], none, 0, 0⟩,
   ⟨(some 2), .mov, [.t 19], none, 0, 0⟩] false)
 .ret))))⟩
def cf32M0 : List Bool := [false, true, false, false, false, false, true, false, false, false, false, false, false, false, false, false, false, true, true, true, false, false, false, false, false, false, false, false, false, false, false, false, false, false, false, false, false, false, false, false, false, false, false, false, false, false, false, false, false, false, false]
def cf32E0 (t1 t6 t17 t18 t19 : AV) : List AV := [.top, t1, .top, .top, .top, .top, t6, .top, .top, .top, .top, .top, .top, .top, .top, .top, .top, t17, t18, t19, .top, .top, .top, .top, .top, .top, .top, .top, .top, .top, .top, .top, .top, .top, .top, .top, .top, .top, .top, .top, .top, .top, .top, .top, .top, .top, .top, .top, .top, .top, .top]
def cf32L0 : C :=
 (.seq (.reg [⟨(some 20), (.bin .lss), [.t 19, .t 18], none, 0, 0⟩] false)
 (.seq (.cond (.t 20) .skip
  (.exit 0))
 (.seq (.block 1 (.seq (.reg [⟨(some 21), (.iad 2 true none), [.t 17, .t 19], none, 0, 0⟩,
    ⟨(some 22), (.load 2 true), [.t 21], none, 0, 0⟩,
    ⟨(some 8), (.alloc [(.str []), (.int .i64 0)] true), [], none, 0, 9⟩,
    ⟨none, (.store 2 true), [.t 8, .t 22], none, 0, 0⟩] false)
  (.seq (.reg [⟨(some 23), .mov, [.t 1], none, 0, 0⟩,
    ⟨(some 24), (.mkf 53), [.t 8], none, 0, 0⟩,
    ⟨(some 25), (.call 52 false false), [.t 23, .t 24], none, 0, 13⟩,
    ⟨(some 9), .mov, [.t 25], none, 0, 0⟩] false)
  (.seq (.seq (.reg [⟨(some 26), .mov, [.t 9], none, 0, 0⟩,
    ⟨(some 27), (.bin .lss), [.t 26, .c (.int .i64 0)], none, 0, 0⟩] false)
  (.cond (.t 27) (.seq (.reg [⟨(some 4), .mov, [.c (.int .i64 0)], none, 0, 0⟩,
     ⟨(some 5), .mov, [.c (.int .i64 7)], none, 0, 0⟩] false)
   .ret)
   .skip))
  (.seq (.seq (.reg [⟨(some 28), .mov, [.t 1], none, 0, 0⟩,
    ⟨(some 29), .mov, [.t 9], none, 0, 0⟩,
    ⟨(some 30), (.iad 2 true none), [.t 28, .t 29], none, 0, 0⟩,
    ⟨(some 31), (.fad 1 1 false), [.t 30], none, 0, 0⟩,
    ⟨(some 32), (.load 1 false), [.t 31], none, 0, 0⟩,
    ⟨(some 10), .mov, [.t 32], none, 0, 0⟩] false)
  (.seq (.reg [⟨(some 33), .mov, [.t 10], none, 0, 0⟩,
    ⟨(some 34), (.bin .lss), [.t 33, .c (.int .i64 (-1000000000))], none, 0, 0⟩,
    ⟨(some 35), .mov, [.t 34], none, 0, 0⟩,
    ⟨(some 36), .mov, [.t 10], (some (35, false)), 0, 0⟩,
    ⟨(some 37), (.bin .gtr), [.t 36, .c (.int .i64 1000000000)], (some (35, false)), 0, 0⟩,
    ⟨(some 38), .pick, [.t 35, .c (.bool true), .t 37], none, 0, 0⟩] false)
  (.cond (.t 38) (.seq (.reg [⟨(some 4), .mov, [.c (.int .i64 0)], none, 0, 0⟩,
     ⟨(some 5), .mov, [.c (.int .i64 2)], none, 0, 0⟩] false)
   .ret)
   .skip)))
  (.reg [⟨(some 39), .mov, [.t 6], none, 0, 0⟩,
    ⟨(some 40), (.fad 1 1 false), [.t 8], none, 0, 0⟩,
    ⟨(some 41), (.load 1 false), [.t 40], none, 2, 0⟩,
    ⟨(some 42), .mov, [.t 1], none, 0, 0⟩,
    ⟨(some 43), .mov, [.t 9], none, 0, 0⟩,
    ⟨(some 44), (.iad 2 true none), [.t 42, .t 43], none, 24, 0⟩,
    ⟨(some 45), (.fad 1 1 false), [.t 44], none, 56, 0⟩,
    ⟨(some 46), (.load 1 false), [.t 45], none, 120, 0⟩,
    ⟨(some 47), (.bin .mul), [.t 41, .t 46], none, 254, 0⟩,
    ⟨(some 48), (.bin .add), [.t 39, .t 47], none, 511, 0⟩,
    ⟨(some 6), .mov, [.t 48], none, 1023, 0⟩] true))))))
 (.reg [⟨(some 49), (.bin .add), [.t 19, .c (.int .i64 1)], none, 0, 0⟩,
   ⟨(some 19), .mov, [.t 49], none, 0, 0⟩] false))))
def cf32 : CF := ⟨2, 51, [.inl 4, .inl 5],
 (.seq (.reg [⟨(some 2), .box, [.t 0], none, 0, 1⟩,
   ⟨(some 4), .mov, [.c (.int .i64 0)], none, 0, 0⟩,
   ⟨(some 5), .mov, [.c (.int .i64 0)], none, 0, 0⟩] false)
 (.seq (.seq (.reg [⟨(some 11), (.load 2 true), [.t 2], none, 0, 0⟩,
   ⟨(some 12), (.call 51 false false), [.t 11], none, 0, 5⟩,
   ⟨(some 13), (.un .not), [.t 12], none, 0, 0⟩] false)
 (.cond (.t 13) (.seq (.reg [⟨(some 4), .mov, [.c (.int .i64 0)], none, 0, 0⟩,
    ⟨(some 5), .mov, [.c (.int .i64 1)], none, 0, 0⟩] false)
  .ret)
  .skip))
 (.seq (.reg [⟨(some 14), (.fad 0 1 false), [.t 2], none, 0, 0⟩,
   ⟨(some 15), (.load 1 false), [.t 14], none, 0, 0⟩,
   ⟨(some 6), .mov, [.t 15], none, 0, 0⟩] false)
 (.seq (.seq (.reg [⟨(some 16), (.fad 1 1 false), [.t 2], none, 0, 0⟩,
   ⟨(some 17), (.load 1 false), [.t 16], none, 0, 0⟩,
   ⟨(some 18), (.len 1), [.t 17], none, 0, 0⟩,
   ⟨(some 19), .mov, [.c (.int .i64 0)], none, 0, 0⟩] false)
 (.block 0 (.loop cf32L0 cf32M0)))
 (.seq (.reg [⟨(some 50), .mov, [.t 6], none, 0, 0⟩,
   ⟨(some 4), .mov, [.t 50], none, 0, 0⟩,
   ⟨(some 5), .mov, [.c (.int .i64 0)], none, 0, 0⟩] false)
 .ret)))))⟩
def cf33M0 : List Bool := [false, true, false, false, false, false, true, true, false, false, false, false, false, false, true, true, true, false, false, false, false, false, false, false, false, false, false, false, false, false, false, false, false, false, false, false, false, false, false, false, false, false, false, false, false, false, false]
def cf33E0 (t1 t6 t7 t14 t15 t16 : AV) : List AV := [.top, t1, .top, .top, .top, .top, t6, t7, .top, .top, .top, .top, .top, .top, t14, t15, t16, .top, .top, .top, .top, .top, .top, .top, .top, .top, .top, .top, .top, .top, .top, .top, .top, .top, .top, .top, .top, .top, .top, .top, .top, .top, .top, .top, .top, .top, .top]
def cf33L0 : C :=
 (.seq (.reg [⟨(some 17), (.bin .lss), [.t 16, .t 15], none, 0, 0⟩] false)
 (.seq (.cond (.t 17) .skip
  (.exit 0))
 (.seq (.block 1 (.seq (.reg [⟨(some 18), (.iad 2 true none), [.t 14, .t 16], none, 0, 0⟩,
    ⟨(some 19), (.load 2 true), [.t 18], none, 0, 0⟩,
    ⟨(some 9), (.alloc [(.int .i64 0), (.sl true [] true)] true), [], none, 0, 5⟩,
    ⟨none, (.store 2 true), [.t 9, .t 19], none, 0, 0⟩] false)
  (.seq (.reg [⟨(some 21), (.load 2 true), [.t 9], none, 0, 0⟩,
    ⟨(some 22), .mov, [.t 1], none, 0, 0⟩,
    ⟨(some 23), (.call 32 false false), [.t 21, .t 22], none, 0, 9⟩,
    ⟨(some 20), .mov, [.t 23], none, 0, 0⟩,
    ⟨(some 24), (.ext 0), [.t 20], none, 0, 0⟩,
    ⟨(some 25), (.ext 1), [.t 20], none, 0, 0⟩,
    ⟨(some 10), .mov, [.t 24], none, 0, 0⟩,
    ⟨(some 11), .mov, [.t 25], none, 0, 0⟩] false)
  (.seq (.reg [⟨(some 26), .mov, [.t 7], none, 0, 0⟩,
    ⟨(some 27), .mov, [.t 26], none, 0, 0⟩,
    ⟨(some 28), .mov, [.t 10], (some (27, true)), 0, 0⟩,
    ⟨(some 29), (.bin .geq), [.t 28, .c (.int .i64 0)], (some (27, true)), 0, 0⟩,
    ⟨(some 30), .pick, [.t 27, .t 29, .c (.bool false)], none, 0, 0⟩,
    ⟨(some 31), .mov, [.t 30], none, 0, 0⟩,
    ⟨(some 32), .mov, [.t 10], (some (31, true)), 0, 0⟩,
    ⟨(some 33), (.bin .leq), [.t 32, .c (.int .i64 4096)], (some (31, true)), 0, 0⟩,
    ⟨(some 34), .pick, [.t 31, .t 33, .c (.bool false)], none, 0, 0⟩,
    ⟨(some 7), .mov, [.t 34], none, 0, 0⟩] false)
  (.reg [⟨(some 35), .mov, [.t 6], none, 0, 0⟩,
    ⟨(some 36), .mov, [.t 10], none, 0, 0⟩,
    ⟨(some 37), .mx, [.t 36, .c (.int .i64 0)], none, 0, 0⟩,
    ⟨(some 38), (.bin .mul), [.t 35, .t 37], none, 0, 0⟩,
    ⟨(some 39), .mn, [.t 38, .c (.int .i64 1099511627776)], none, 0, 0⟩,
    ⟨(some 6), .mov, [.t 39], none, 0, 0⟩] false)))))
 (.reg [⟨(some 40), (.bin .add), [.t 16, .c (.int .i64 1)], none, 0, 0⟩,
   ⟨(some 16), .mov, [.t 40], none, 0, 0⟩] false))))
def cf33 : CF := ⟨2, 47, [.inl 4, .inl 5],
 (.seq (.reg [⟨(some 2), .box, [.t 0], none, 0, 1⟩,
   ⟨(some 4), .mov, [.c (.int .i64 0)], none, 0, 0⟩,
   ⟨(some 5), .mov, [.c (.bool false)], none, 0, 0⟩] false)
 (.seq (.reg [⟨(some 6), .mov, [.c (.int .i64 1)], none, 0, 0⟩] false)
 (.seq (.reg [⟨(some 7), .mov, [.c (.bool true)], none, 0, 0⟩] false)
 (.seq (.seq (.reg [⟨(some 12), (.fad 1 2 true), [.t 2], none, 0, 0⟩,
   ⟨(some 13), (.fad 1 1 false), [.t 12], none, 0, 0⟩,
   ⟨(some 14), (.load 1 false), [.t 13], none, 0, 0⟩,
   ⟨(some 15), (.len 1), [.t 14], none, 0, 0⟩,
   ⟨(some 16), .mov, [.c (.int .i64 0)], none, 0, 0⟩] false)
 (.block 0 (.loop cf33L0 cf33M0)))
 (.seq (.reg [⟨(some 41), .mov, [.t 6], none, 0, 0⟩,
   ⟨(some 42), .mov, [.t 7], none, 0, 0⟩,
   ⟨(some 43), .mov, [.t 42], none, 0, 0⟩,
   ⟨(some 44), .mov, [.t 6], (some (43, true)), 0, 0⟩,
   ⟨(some 45), (.bin .leq), [.t 44, .c (.int .i64 4096)], (some (43, true)), 0, 0⟩,
   ⟨(some 46), .pick, [.t 43, .t 45, .c (.bool false)], none, 0, 0⟩,
   ⟨(some 4), .mov, [.t 41], none, 0, 0⟩,
   ⟨(some 5), .mov, [.t 46], none, 0, 0⟩] false)
 .ret)))))⟩
def cf36M0 : List Bool := [true, false, false, true, true, false, false, false, false, false, false, false, false, false, false, false, false, false, false, false, false, false, false, false, false]
def cf36E0 (t0 t3 t4 : AV) : List AV := [t0, .top, .top, t3, t4, .top, .top, .top, .top, .top, .top, .top, .top, .top, .top, .top, .top, .top, .top, .top, .top, .top, .top, .top, .top]
def cf36L0 : C :=
 (.seq (.seq (.reg [⟨(some 12), .mov, [.t 4], none, 0, 0⟩,
   ⟨(some 13), .mov, [.t 0], none, 0, 0⟩,
   ⟨(some 14), (.len 1), [.t 13], none, 0, 0⟩,
   ⟨(some 15), (.bin .lss), [.t 12, .t 14], none, 0, 0⟩] false)
 (.cond (.t 15) .skip
  (.exit 0)))
 (.seq (.block 1 (.reg [⟨(some 18), .mov, [.t 3], none, 0, 0⟩,
    ⟨(some 19), .mov, [.t 0], none, 0, 0⟩,
    ⟨(some 20), .mov, [.t 4], none, 0, 0⟩,
    ⟨(some 21), (.iad 1 false none), [.t 19, .t 20], none, 0, 0⟩,
    ⟨(some 22), (.load 1 false), [.t 21], none, 0, 0⟩,
    ⟨(some 23), .mx, [.t 18, .t 22], none, 0, 0⟩,
    ⟨(some 3), .mov, [.t 23], none, 0, 0⟩] false))
 (.reg [⟨(some 16), .mov, [.t 4], none, 0, 0⟩,
   ⟨(some 17), (.bin .add), [.t 16, .c (.int .i64 1)], none, 0, 0⟩,
   ⟨(some 4), .mov, [.t 17], none, 0, 0⟩] false)))
def cf36 : CF := ⟨1, 25, [.inl 2],
 (.seq (.reg [⟨(some 2), .mov, [.c (.int .i64 0)], none, 0, 0⟩] false)
 (.seq (.seq (.reg [⟨(some 5), .mov, [.t 0], none, 0, 0⟩,
   ⟨(some 6), (.len 1), [.t 5], none, 0, 0⟩,
   ⟨(some 7), (.bin .lss), [.t 6, .c (.int .i64 1)], none, 0, 0⟩] false)
 (.cond (.t 7) (.reg [⟨(some 8), .mki, [.c (.str [115, 108, 105, 99, 101, 115, 46, 77, 97, 120, 58, 32, 101, 109, 112, 116, 121, 32, 108, 105, 115, 116])], none, 0, 0⟩,
    ⟨none, .bad, [], none, 0, 0⟩] false)
  .skip))
 (.seq (.reg [⟨(some 9), .mov, [.t 0], none, 0, 0⟩,
   ⟨(some 10), (.iad 1 false none), [.t 9, .c (.int .i64 0)], none, 0, 0⟩,
   ⟨(some 11), (.load 1 false), [.t 10], none, 0, 0⟩,
   ⟨(some 3), .mov, [.t 11], none, 0, 0⟩] false)
 (.seq (.seq (.reg [⟨(some 4), .mov, [.c (.int .i64 1)], none, 0, 0⟩] false)
 (.block 0 (.loop cf36L0 cf36M0)))
 (.seq (.reg [⟨(some 24), .mov, [.t 3], none, 0, 0⟩,
   ⟨(some 2), .mov, [.t 24], none, 0, 0⟩] false)
 .ret)))))⟩
def cf39 : CF := ⟨2, 8, [.inr (3, 9, true)],
 (.seq (.reg [⟨(some 3), (.alloc [(.str []), (.int .i64 0), (.int .i64 0), (.str []), (.sl true [] true), (.bool false), (.int .i64 0), (.sl true [] true), (.sl true [] true)] true), [], none, 0, 1⟩] false)
 (.seq (.reg [⟨(some 4), .mov, [.t 0], none, 0, 0⟩,
   ⟨(some 5), (.load 2 true), [.t 1], none, 0, 0⟩,
   ⟨(some 6), (.mkSl 2 true false), [.t 5], none, 0, 0⟩,
   ⟨(some 7), (.build [(.str []), (.int .i64 0), (.int .i64 0), (.str []), (.sl true [] true), (.bool false), (.int .i64 0), (.sl true [] true), (.sl true [] true)] [(0, 1), (2, 1), (4, 1)]), [.c (.str [114, 101, 97, 100]), .t 4, .t 6], none, 0, 0⟩,
   ⟨none, (.store 9 true), [.t 3, .t 7], none, 0, 0⟩] false)
 .ret))⟩
def cf40M0 : List Bool := [false, true, false, true, true, false, false, false, false, false, false, false, false, false, false, false, false, false, false, false, false]
def cf40E0 (t1 t3 t4 : AV) : List AV := [.top, t1, .top, t3, t4, .top, .top, .top, .top, .top, .top, .top, .top, .top, .top, .top, .top, .top, .top, .top, .top]
def cf40L0 : C :=
 (.seq (.seq (.reg [⟨(some 5), .mov, [.t 4], none, 0, 0⟩,
   ⟨(some 6), (.fad 8 1 false), [.t 1], none, 0, 0⟩,
   ⟨(some 7), (.load 1 false), [.t 6], none, 0, 0⟩,
   ⟨(some 8), (.len 1), [.t 7], none, 0, 0⟩,
   ⟨(some 9), (.bin .lss), [.t 5, .t 8], none, 0, 0⟩] false)
 (.cond (.t 9) .skip
  (.exit 0)))
 (.seq (.block 1 (.reg [⟨(some 12), .mov, [.t 3], none, 0, 0⟩,
    ⟨(some 13), (.fad 8 1 false), [.t 1], none, 0, 0⟩,
    ⟨(some 14), (.load 1 false), [.t 13], none, 0, 0⟩,
    ⟨(some 15), .mov, [.t 4], none, 0, 0⟩,
    ⟨(some 16), (.iad 9 true none), [.t 14, .t 15], none, 0, 0⟩,
    ⟨(some 17), (.load 9 true), [.t 16], none, 0, 0⟩,
    ⟨(some 18), (.call 40 false false), [.t 17], none, 0, 5⟩,
    ⟨(some 19), (.bin .add), [.t 12, .t 18], none, 0, 0⟩,
    ⟨(some 3), .mov, [.t 19], none, 0, 0⟩] false))
 (.reg [⟨(some 10), .mov, [.t 4], none, 0, 0⟩,
   ⟨(some 11), (.bin .add), [.t 10, .c (.int .i64 1)], none, 0, 0⟩,
   ⟨(some 4), .mov, [.t 11], none, 0, 0⟩] false)))
def cf40 : CF := ⟨1, 21, [.inl 2],
 (.seq (.reg [⟨(some 1), .box, [.t 0], none, 0, 1⟩,
   ⟨(some 2), .mov, [.c (.int .i64 0)], none, 0, 0⟩] false)
 (.seq (.reg [⟨(some 3), .mov, [.c (.int .i64 1)], none, 0, 0⟩] false)
 (.seq (.seq (.reg [⟨(some 4), .mov, [.c (.int .i64 0)], none, 0, 0⟩] false)
 (.block 0 (.loop cf40L0 cf40M0)))
 (.seq (.reg [⟨(some 20), .mov, [.t 3], none, 0, 0⟩,
   ⟨(some 2), .mov, [.t 20], none, 0, 0⟩] false)
 .ret))))⟩
def cf41M0 : List Bool := [false, true, false, true, false, false, false, false, false, false, false, false, false, false, false, false, false, false, false, false, false, false, false, false, false, false, false, false, false, false, false, false, false, false, false, false, false, false, false]
def cf41E0 (t1 t3 : AV) : List AV := [.top, t1, .top, t3, .top, .top, .top, .top, .top, .top, .top, .top, .top, .top, .top, .top, .top, .top, .top, .top, .top, .top, .top, .top, .top, .top, .top, .top, .top, .top, .top, .top, .top, .top, .top, .top, .top, .top, .top]
def cf41L0 : C :=
 (.seq (.seq (.reg [⟨(some 4), .mov, [.t 3], none, 0, 0⟩,
   ⟨(some 5), (.fad 8 1 false), [.t 1], none, 0, 0⟩,
   ⟨(some 6), (.load 1 false), [.t 5], none, 0, 0⟩,
   ⟨(some 7), (.len 1), [.t 6], none, 0, 0⟩,
   ⟨(some 8), (.bin .lss), [.t 4, .t 7], none, 0, 0⟩] false)
 (.cond (.t 8) .skip
  (.exit 0)))
 (.seq (.block 1 (.seq (.reg [⟨(some 11), (.fad 8 1 false), [.t 1], none, 0, 0⟩,
    ⟨(some 12), (.load 1 false), [.t 11], none, 0, 0⟩,
    ⟨(some 13), .mov, [.t 3], none, 0, 0⟩,
    ⟨(some 14), (.iad 9 true none), [.t 12, .t 13], none, 0, 0⟩,
    ⟨(some 15), (.load 9 true), [.t 14], none, 0, 0⟩,
    ⟨(some 16), (.call 41 false false), [.t 15], none, 0, 5⟩,
    ⟨(some 17), (.un .not), [.t 16], none, 0, 0⟩] false)
  (.cond (.t 17) (.seq (.reg [⟨(some 2), .mov, [.c (.bool false)], none, 0, 0⟩] false)
   .ret)
   .skip)))
 (.reg [⟨(some 9), .mov, [.t 3], none, 0, 0⟩,
   ⟨(some 10), (.bin .add), [.t 9, .c (.int .i64 1)], none, 0, 0⟩,
   ⟨(some 3), .mov, [.t 10], none, 0, 0⟩] false)))
def cf41 : CF := ⟨1, 39, [.inl 2],
 (.seq (.reg [⟨(some 1), .box, [.t 0], none, 0, 1⟩,
   ⟨(some 2), .mov, [.c (.bool false)], none, 0, 0⟩] false)
 (.seq (.seq (.reg [⟨(some 3), .mov, [.c (.int .i64 0)], none, 0, 0⟩] false)
 (.block 0 (.loop cf41L0 cf41M0)))
 (.seq (.reg [⟨(some 18), (.fad 4 1 false), [.t 1], none, 0, 0⟩,
   ⟨(some 19), (.load 1 false), [.t 18], none, 0, 0⟩,
   ⟨(some 20), (.build [(.str []), (.sl true [] true)] [(1, 1)]), [.t 19], none, 0, 0⟩,
   ⟨(some 21), (.call 42 false false), [.t 20], none, 0, 9⟩,
   ⟨(some 22), .mov, [.t 21], none, 0, 0⟩,
   ⟨(some 23), (.fad 7 1 false), [.t 1], (some (22, true)), 0, 0⟩,
   ⟨(some 24), (.load 1 false), [.t 23], (some (22, true)), 0, 0⟩,
   ⟨(some 25), (.call 26 false false), [.t 24], (some (22, true)), 0, 13⟩,
   ⟨(some 26), .pick, [.t 22, .t 25, .c (.bool false)], none, 0, 0⟩,
   ⟨(some 27), .mov, [.t 26], none, 0, 0⟩,
   ⟨(some 28), (.fad 3 1 false), [.t 1], (some (27, true)), 0, 0⟩,
   ⟨(some 29), (.load 1 false), [.t 28], (some (27, true)), 0, 0⟩,
   ⟨(some 30), (.len 0), [.t 29], (some (27, true)), 0, 0⟩,
   ⟨(some 31), (.bin .leq), [.t 30, .c (.int .i64 35)], (some (27, true)), 0, 0⟩,
   ⟨(some 32), .pick, [.t 27, .t 31, .c (.bool false)], none, 0, 0⟩,
   ⟨(some 33), .mov, [.t 32], none, 0, 0⟩,
   ⟨(some 34), (.fad 0 1 false), [.t 1], (some (33, true)), 0, 0⟩,
   ⟨(some 35), (.load 1 false), [.t 34], (some (33, true)), 0, 0⟩,
   ⟨(some 36), (.len 0), [.t 35], (some (33, true)), 0, 0⟩,
   ⟨(some 37), (.bin .leq), [.t 36, .c (.int .i64 20)], (some (33, true)), 0, 0⟩,
   ⟨(some 38), .pick, [.t 33, .t 37, .c (.bool false)], none, 0, 0⟩,
   ⟨(some 2), .mov, [.t 38], none, 0, 0⟩] false)
 .ret)))⟩
def cf42M0 : List Bool := [false, true, false, true, false, false, false, false, false, false, false, false, false, false, false, false, false, false, false, false, false, false, false, false, false, false, false, false]
def cf42E0 (t1 t3 : AV) : List AV := [.top, t1, .top, t3, .top, .top, .top, .top, .top, .top, .top, .top, .top, .top, .top, .top, .top, .top, .top, .top, .top, .top, .top, .top, .top, .top, .top, .top]
def cf42L0 : C :=
 (.seq (.seq (.reg [⟨(some 4), .mov, [.t 3], none, 0, 0⟩,
   ⟨(some 5), (.fad 1 1 false), [.t 1], none, 0, 0⟩,
   ⟨(some 6), (.load 1 false), [.t 5], none, 0, 0⟩,
   ⟨(some 7), (.len 1), [.t 6], none, 0, 0⟩,
   ⟨(some 8), (.bin .lss), [.t 4, .t 7], none, 0, 0⟩] false)
 (.cond (.t 8) .skip
  (.exit 0)))
 (.seq (.block 1 (.seq (.reg [⟨(some 11), (.fad 1 1 false), [.t 1], none, 0, 0⟩,
    ⟨(some 12), (.load 1 false), [.t 11], none, 0, 0⟩,
    ⟨(some 13), .mov, [.t 3], none, 0, 0⟩,
    ⟨(some 14), (.iad 2 true none), [.t 12, .t 13], none, 0, 0⟩,
    ⟨(some 15), (.load 2 true), [.t 14], none, 0, 0⟩,
    ⟨(some 16), (.call 56 false false), [.t 15], none, 0, 5⟩,
    ⟨(some 17), (.un .not), [.t 16], none, 0, 0⟩] false)
  (.cond (.t 17) (.seq (.reg [⟨(some 2), .mov, [.c (.bool false)], none, 0, 0⟩] false)
   .ret)
   .skip)))
 (.reg [⟨(some 9), .mov, [.t 3], none, 0, 0⟩,
   ⟨(some 10), (.bin .add), [.t 9, .c (.int .i64 1)], none, 0, 0⟩,
   ⟨(some 3), .mov, [.t 10], none, 0, 0⟩] false)))
def cf42 : CF := ⟨1, 28, [.inl 2],
 (.seq (.reg [⟨(some 1), .box, [.t 0], none, 0, 1⟩,
   ⟨(some 2), .mov, [.c (.bool false)], none, 0, 0⟩] false)
 (.seq (.seq (.reg [⟨(some 3), .mov, [.c (.int .i64 0)], none, 0, 0⟩] false)
 (.block 0 (.loop cf42L0 cf42M0)))
 (.seq (.reg [⟨(some 18), (.fad 1 1 false), [.t 1], none, 0, 0⟩,
   ⟨(some 19), (.load 1 false), [.t 18], none, 0, 0⟩,
   ⟨(some 20), (.len 1), [.t 19], none, 0, 0⟩,
   ⟨(some 21), (.bin .leq), [.t 20, .c (.int .i64 8)], none, 0, 0⟩,
   ⟨(some 22), .mov, [.t 21], none, 0, 0⟩,
   ⟨(some 23), (.fad 0 1 false), [.t 1], (some (22, true)), 0, 0⟩,
   ⟨(some 24), (.load 1 false), [.t 23], (some (22, true)), 0, 0⟩,
   ⟨(some 25), (.len 0), [.t 24], (some (22, true)), 0, 0⟩,
   ⟨(some 26), (.bin .leq), [.t 25, .c (.int .i64 35)], (some (22, true)), 0, 0⟩,
   ⟨(some 27), .pick, [.t 22, .t 26, .c (.bool false)], none, 0, 0⟩,
   ⟨(some 2), .mov, [.t 27], none, 0, 0⟩] false)
 .ret)))⟩
def cf43M0 : List Bool := [false, true, false, false, false, false, true, true, true, false, false, false, false, false, false, false, false, false, false, false, false, false, false, false, false, false, false, false, false, false, false, false, false, false, false, false, false, false, false, false, false, false, false, false, false, false, false, false, false, false, false, false, false, false, false, false, false, false, false, false, false, false, false, false, false, false, false, false, false, false, false, false, false, false, false, false, false, false, false, false, false, false, false, false, false]
def cf43E0 (t1 t6 t7 t8 : AV) : List AV := [.top, t1, .top, .top, .top, .top, t6, t7, t8, .top, .top, .top, .top, .top, .top, .top, .top, .top, .top, .top, .top, .top, .top, .top, .top, .top, .top, .top, .top, .top, .top, .top, .top, .top, .top, .top, .top, .top, .top, .top, .top, .top, .top, .top, .top, .top, .top, .top, .top, .top, .top, .top, .top, .top, .top, .top, .top, .top, .top, .top, .top, .top, .top, .top, .top, .top, .top, .top, .top, .top, .top, .top, .top, .top, .top, .top, .top, .top, .top, .top, .top, .top, .top, .top, .top]
def cf43L0 : C :=
 (.seq (.reg [⟨(some 9), (.bin .lss), [.t 8, .t 7], none, 0, 0⟩] false)
 (.seq (.cond (.t 9) .skip
  (.exit 0))
 (.seq (.block 1 (.seq (.reg [⟨(some 10), .mov, [.t 8], none, 0, 0⟩,
    ⟨(some 11), (.iad 1 false none), [.t 6, .t 8], none, 0, 0⟩,
    ⟨(some 12), (.load 1 false), [.t 11], none, 0, 0⟩,
    ⟨(some 3), .mov, [.t 10], none, 0, 0⟩,
    ⟨(some 4), .mov, [.t 12], none, 0, 0⟩] false)
  (.seq (.reg [⟨(some 13), .mov, [.t 4], none, 0, 0⟩,
    ⟨(some 14), (.call 57 false false), [.t 13], none, 0, 5⟩,
    ⟨(some 15), (.un .not), [.t 14], none, 0, 0⟩,
    ⟨(some 16), .mov, [.t 15], none, 0, 0⟩,
    ⟨(some 17), .mov, [.t 4], (some (16, false)), 0, 0⟩,
    ⟨(some 18), (.call 58 false false), [.t 17], (some (16, false)), 0, 9⟩,
    ⟨(some 19), .pick, [.t 16, .c (.bool true), .t 18], none, 0, 0⟩,
    ⟨(some 20), .mov, [.t 19], none, 0, 0⟩,
    ⟨(some 21), .mov, [.t 3], (some (20, false)), 0, 0⟩,
    ⟨(some 22), (.bin .gtr), [.t 21, .c (.int .i64 0)], (some (20, false)), 0, 0⟩,
    ⟨(some 23), .mov, [.t 22], (some (20, false)), 0, 0⟩,
    ⟨(some 24), (.fad 0 1 false), [.t 1], (some (23, true)), 0, 0⟩,
    ⟨(some 25), (.load 1 false), [.t 24], (some (23, true)), 0, 0⟩,
    ⟨(some 26), .mov, [.t 3], (some (23, true)), 0, 0⟩,
    ⟨(some 27), (.bin .sub), [.t 26, .c (.int .i64 1)], (some (23, true)), 0, 0⟩,
    ⟨(some 28), (.iad 1 false none), [.t 25, .t 27], (some (23, true)), 0, 0⟩,
    ⟨(some 29), (.load 1 false), [.t 28], (some (23, true)), 0, 0⟩,
    ⟨(some 30), .mov, [.t 4], (some (23, true)), 0, 0⟩,
    ⟨(some 31), (.bin .geq), [.t 29, .t 30], (some (23, true)), 0, 0⟩,
    ⟨(some 32), .pick, [.t 23, .t 31, .c (.bool false)], (some (20, false)), 0, 0⟩,
    ⟨(some 33), .pick, [.t 20, .c (.bool true), .t 32], none, 0, 0⟩] false)
  (.cond (.t 33) (.seq (.reg [⟨(some 2), .mov, [.c (.bool false)], none, 0, 0⟩] false)
   .ret)
   .skip))))
 (.reg [⟨(some 34), (.bin .add), [.t 8, .c (.int .i64 1)], none, 0, 0⟩,
   ⟨(some 8), .mov, [.t 34], none, 0, 0⟩] false))))
def cf43 : CF := ⟨1, 85, [.inl 2],
 (.seq (.reg [⟨(some 1), .box, [.t 0], none, 0, 1⟩,
   ⟨(some 2), .mov, [.c (.bool false)], none, 0, 0⟩] false)
 (.seq (.seq (.reg [⟨(some 5), (.fad 0 1 false), [.t 1], none, 0, 0⟩,
   ⟨(some 6), (.load 1 false), [.t 5], none, 0, 0⟩,
   ⟨(some 7), (.len 1), [.t 6], none, 0, 0⟩,
   ⟨(some 8), .mov, [.c (.int .i64 0)], none, 0, 0⟩] false)
 (.block 0 (.loop cf43L0 cf43M0)))
 (.seq (.seq (.reg [⟨(some 35), (.fad 0 1 false), [.t 1], none, 0, 0⟩,
   ⟨(some 36), (.load 1 false), [.t 35], none, 0, 0⟩,
   ⟨(some 37), (.len 1), [.t 36], none, 0, 0⟩,
   ⟨(some 38), (.bin .gtr), [.t 37, .c (.int .i64 12)], none, 0, 0⟩,
   ⟨(some 39), .mov, [.t 38], none, 0, 0⟩,
   ⟨(some 40), (.fad 1 1 false), [.t 1], (some (39, false)), 0, 0⟩,
   ⟨(some 41), (.load 1 false), [.t 40], (some (39, false)), 0, 0⟩,
   ⟨(some 42), (.fad 0 1 false), [.t 1], (some (39, false)), 0, 0⟩,
   ⟨(some 43), (.load 1 false), [.t 42], (some (39, false)), 0, 0⟩,
   ⟨(some 44), (.call 59 false false), [.t 41, .t 43], (some (39, false)), 0, 13⟩,
   ⟨(some 45), (.un .not), [.t 44], (some (39, false)), 0, 0⟩,
   ⟨(some 46), .pick, [.t 39, .c (.bool true), .t 45], none, 0, 0⟩,
   ⟨(some 47), .mov, [.t 46], none, 0, 0⟩,
   ⟨(some 48), (.fad 2 1 false), [.t 1], (some (47, false)), 0, 0⟩,
   ⟨(some 49), (.load 1 false), [.t 48], (some (47, false)), 0, 0⟩,
   ⟨(some 50), (.bin .lss), [.t 49, .c (.int .i64 0)], (some (47, false)), 0, 0⟩,
   ⟨(some 51), .pick, [.t 47, .c (.bool true), .t 50], none, 0, 0⟩,
   ⟨(some 52), .mov, [.t 51], none, 0, 0⟩,
   ⟨(some 53), (.fad 2 1 false), [.t 1], (some (52, false)), 0, 0⟩,
   ⟨(some 54), (.load 1 false), [.t 53], (some (52, false)), 0, 0⟩,
   ⟨(some 55), (.bin .gtr), [.t 54, .c (.int .i64 8)], (some (52, false)), 0, 0⟩,
   ⟨(some 56), .pick, [.t 52, .c (.bool true), .t 55], none, 0, 0⟩,
   ⟨(some 57), .mov, [.t 56], none, 0, 0⟩,
   ⟨(some 58), (.fad 2 1 false), [.t 1], (some (57, false)), 0, 0⟩,
   ⟨(some 59), (.load 1 false), [.t 58], (some (57, false)), 0, 0⟩,
   ⟨(some 60), (.fad 3 1 false), [.t 1], (some (57, false)), 0, 0⟩,
   ⟨(some 61), (.load 1 false), [.t 60], (some (57, false)), 0, 0⟩,
   ⟨(some 62), (.len 1), [.t 61], (some (57, false)), 0, 0⟩,
   ⟨(some 63), (.bin .gtr), [.t 59, .t 62], (some (57, false)), 0, 0⟩,
   ⟨(some 64), .pick, [.t 57, .c (.bool true), .t 63], none, 0, 0⟩,
   ⟨(some 65), .mov, [.t 64], none, 0, 0⟩,
   ⟨(some 66), (.fad 3 1 false), [.t 1], (some (65, false)), 0, 0⟩,
   ⟨(some 67), (.load 1 false), [.t 66], (some (65, false)), 0, 0⟩,
   ⟨(some 68), (.len 1), [.t 67], (some (65, false)), 0, 0⟩,
   ⟨(some 69), (.fad 2 1 false), [.t 1], (some (65, false)), 0, 0⟩,
   ⟨(some 70), (.load 1 false), [.t 69], (some (65, false)), 0, 0⟩,
   ⟨(some 71), (.bin .add), [.t 70, .c (.int .i64 400)], (some (65, false)), 0, 0⟩,
   ⟨(some 72), (.bin .gtr), [.t 68, .t 71], (some (65, false)), 0, 0⟩,
   ⟨(some 73), .pick, [.t 65, .c (.bool true), .t 72], none, 0, 0⟩,
   ⟨(some 74), .mov, [.t 73], none, 0, 0⟩,
   ⟨(some 75), (.fad 4 1 false), [.t 1], (some (74, false)), 0, 0⟩,
   ⟨(some 76), (.load 1 false), [.t 75], (some (74, false)), 0, 0⟩,
   ⟨(some 77), (.len 1), [.t 76], (some (74, false)), 0, 0⟩,
   ⟨(some 78), (.bin .gtr), [.t 77, .c (.int .i64 400)], (some (74, false)), 0, 0⟩,
   ⟨(some 79), .pick, [.t 74, .c (.bool true), .t 78], none, 0, 0⟩] false)
 (.cond (.t 79) (.seq (.reg [⟨(some 2), .mov, [.c (.bool false)], none, 0, 0⟩] false)
  .ret)
  .skip))
 (.seq (.reg [⟨(some 80), (.fad 3 1 false), [.t 1], none, 0, 0⟩,
   ⟨(some 81), (.load 1 false), [.t 80], none, 0, 0⟩,
   ⟨(some 82), (.mkf 61), [.t 1], none, 0, 0⟩,
   ⟨(some 83), (.call 60 false false), [.t 81, .t 82], none, 0, 17⟩,
   ⟨(some 84), (.un .not), [.t 83], none, 0, 0⟩,
   ⟨(some 2), .mov, [.t 84], none, 0, 0⟩] false)
 .ret))))⟩
def cf44 : CF := ⟨2, 263, [.inl 4],
 (.seq (.reg [⟨(some 4), .mov, [.c (.bool false)], none, 0, 0⟩] false)
 (.seq (.reg [⟨(some 10), .mov, [.t 0], none, 0, 0⟩,
   ⟨(some 11), .nilc, [.t 10], none, 0, 0⟩,
   ⟨(some 12), (.fad 0 6 true), [.t 11], none, 0, 0⟩,
   ⟨(some 13), (.fad 4 1 false), [.t 12], none, 0, 0⟩,
   ⟨(some 14), (.load 1 false), [.t 13], none, 0, 0⟩,
   ⟨(some 15), .mov, [.t 1], none, 0, 0⟩,
   ⟨(some 16), (.iad 24 true none), [.t 14, .t 15], none, 0, 0⟩,
   ⟨(some 17), (.load 24 true), [.t 16], none, 0, 0⟩,
   ⟨(some 5), (.alloc [(.int .i64 0), (.int .i64 0), (.sl true [] true), (.str []), (.int .i64 0), (.int .i64 0), (.str []), (.sl true [] true), (.bool false), (.int .i64 0), (.sl true [] true), (.sl true [] true), (.sl true [] true), (.int .i64 0), (.str []), (.int .i64 0), (.int .i64 0), (.str []), (.sl true [] true), (.bool false), (.int .i64 0), (.sl true [] true), (.sl true [] true), (.int .i64 0)] true), [], none, 0, 1⟩,
   ⟨none, (.store 24 true), [.t 5, .t 17], none, 0, 0⟩] false)
 (.seq (.seq (.reg [⟨(some 18), (.fad 1 1 false), [.t 5], none, 0, 0⟩,
   ⟨(some 19), (.load 1 false), [.t 18], none, 1, 0⟩,
   ⟨(some 20), .mov, [.t 0], none, 0, 0⟩,
   ⟨(some 21), .nilc, [.t 20], none, 4, 0⟩,
   ⟨(some 22), (.fad 0 6 true), [.t 21], none, 12, 0⟩,
   ⟨(some 23), (.fad 2 1 false), [.t 22], none, 28, 0⟩,
   ⟨(some 24), (.load 1 false), [.t 23], none, 60, 0⟩,
   ⟨(some 25), (.bin .lss), [.t 19, .t 24], none, 127, 0⟩,
   ⟨(some 26), .mov, [.t 25], none, 255, 0⟩,
   ⟨(some 27), (.fad 1 1 false), [.t 5], (some (26, false)), 511, 0⟩,
   ⟨(some 28), (.load 1 false), [.t 27], (some (26, false)), 1023, 0⟩,
   ⟨(some 29), .mov, [.t 0], (some (26, false)), 511, 0⟩,
   ⟨(some 30), .nilc, [.t 29], (some (26, false)), 2559, 0⟩,
   ⟨(some 31), (.fad 0 6 true), [.t 30], (some (26, false)), 6655, 0⟩,
   ⟨(some 32), (.fad 3 1 false), [.t 31], (some (26, false)), 14847, 0⟩,
   ⟨(some 33), (.load 1 false), [.t 32], (some (26, false)), 31231, 0⟩,
   ⟨(some 34), (.len 1), [.t 33], (some (26, false)), 63999, 0⟩,
   ⟨(some 35), (.bin .geq), [.t 28, .t 34], (some (26, false)), 131071, 0⟩,
   ⟨(some 36), .pick, [.t 26, .c (.bool true), .t 35], none, 262143, 0⟩,
   ⟨(some 37), .mov, [.t 36], none, 524287, 0⟩,
   ⟨(some 38), (.fad 23 1 false), [.t 5], (some (37, false)), 1048575, 0⟩,
   ⟨(some 39), (.load 1 false), [.t 38], (some (37, false)), 2097151, 0⟩,
   ⟨(some 40), (.bin .lss), [.t 39, .c (.int .i64 0)], (some (37, false)), 4194303, 0⟩,
   ⟨(some 41), .pick, [.t 37, .c (.bool true), .t 40], none, 8388607, 0⟩] true)
 (.cond (.t 41) (.seq (.reg [⟨(some 4), .mov, [.c (.bool false)], none, 0, 0⟩] false)
  .ret)
  .skip))
 (.seq (.reg [⟨(some 42), .mov, [.t 0], none, 0, 0⟩,
   ⟨(some 43), .nilc, [.t 42], none, 1, 0⟩,
   ⟨(some 44), (.fad 0 6 true), [.t 43], none, 3, 0⟩,
   ⟨(some 45), (.fad 3 1 false), [.t 44], none, 7, 0⟩,
   ⟨(some 46), (.load 1 false), [.t 45], none, 15, 0⟩,
   ⟨(some 47), (.fad 1 1 false), [.t 5], none, 0, 0⟩,
   ⟨(some 48), (.load 1 false), [.t 47], none, 32, 0⟩,
   ⟨(some 49), (.iad 3 true none), [.t 46, .t 48], none, 127, 0⟩,
   ⟨(some 50), (.load 3 true), [.t 49], none, 255, 0⟩,
   ⟨(some 6), (.alloc [(.str []), (.str []), (.sl true [] true)] true), [], none, 0, 5⟩,
   ⟨none, (.store 3 true), [.t 6, .t 50], none, 1023, 0⟩] true)
 (.seq (.seq (.reg [⟨(some 51), (.fad 0 1 false), [.t 6], none, 0, 0⟩,
   ⟨(some 52), (.load 1 false), [.t 51], none, 0, 0⟩,
   ⟨(some 53), (.bin .eql), [.t 52, .c (.str [98, 111, 111, 108])], none, 0, 0⟩,
   ⟨(some 54), .mov, [.t 53], none, 0, 0⟩,
   ⟨(some 55), .mov, [.t 0], (some (54, true)), 0, 0⟩,
   ⟨(some 56), (.fad 3 9 true), [.t 5], (some (54, true)), 0, 0⟩,
   ⟨(some 57), (.load 9 true), [.t 56], (some (54, true)), 0, 0⟩,
   ⟨(some 58), (.call 63 false false), [.t 55, .t 57], (some (54, true)), 0, 9⟩,
   ⟨(some 59), (.un .not), [.t 58], (some (54, true)), 0, 0⟩,
   ⟨(some 60), .mov, [.t 59], (some (54, true)), 0, 0⟩,
   ⟨(some 61), (.fad 0 1 false), [.t 5], (some (60, false)), 0, 0⟩,
   ⟨(some 62), (.load 1 false), [.t 61], (some (60, false)), 0, 0⟩,
   ⟨(some 63), (.bin .eql), [.t 62, .c (.int .i64 2)], (some (60, false)), 0, 0⟩,
   ⟨(some 64), .mov, [.t 63], (some (60, false)), 0, 0⟩,
   ⟨(some 65), (.fad 12 1 false), [.t 5], (some (64, true)), 0, 0⟩,
   ⟨(some 66), (.load 1 false), [.t 65], (some (64, true)), 0, 0⟩,
   ⟨(some 67), (.mkSl 1 false false), [.c (.bool true), .c (.bool true)], (some (64, true)), 0, 0⟩,
   ⟨(some 68), (.call 64 false false), [.t 66, .t 67], (some (64, true)), 0, 13⟩,
   ⟨(some 69), (.un .not), [.t 68], (some (64, true)), 0, 0⟩,
   ⟨(some 70), .pick, [.t 64, .t 69, .c (.bool false)], (some (60, false)), 0, 0⟩,
   ⟨(some 71), .pick, [.t 60, .c (.bool true), .t 70], (some (54, true)), 0, 0⟩,
   ⟨(some 72), .pick, [.t 54, .t 71, .c (.bool false)], none, 0, 0⟩] false)
 (.cond (.t 72) (.seq (.reg [⟨(some 4), .mov, [.c (.bool false)], none, 0, 0⟩] false)
  .ret)
  .skip))
 (.seq (.reg [⟨(some 73), .mov, [.t 0], none, 0, 0⟩,
   ⟨(some 74), .nilc, [.t 73], none, 1, 0⟩,
   ⟨(some 75), (.fad 6 1 false), [.t 74], none, 3, 0⟩,
   ⟨(some 76), (.load 1 false), [.t 75], none, 7, 0⟩,
   ⟨(some 77), (.fad 1 1 false), [.t 5], none, 0, 0⟩,
   ⟨(some 78), (.load 1 false), [.t 77], none, 16, 0⟩,
   ⟨(some 79), (.iad 1 false none), [.t 76, .t 78], none, 63, 0⟩,
   ⟨(some 80), (.load 1 false), [.t 79], none, 127, 0⟩,
   ⟨(some 7), .mov, [.t 80], none, 255, 0⟩] true)
 (.seq (.seq (.reg [⟨(some 81), .mov, [.t 7], none, 0, 0⟩,
   ⟨(some 82), .mov, [.t 81], none, 1, 0⟩,
   ⟨(some 83), (.fad 0 1 false), [.t 5], (some (82, true)), 3, 0⟩,
   ⟨(some 84), (.load 1 false), [.t 83], (some (82, true)), 7, 0⟩,
   ⟨(some 85), (.bin .neq), [.t 84, .c (.int .i64 3)], (some (82, true)), 15, 0⟩,
   ⟨(some 86), .mov, [.t 85], (some (82, true)), 31, 0⟩,
   ⟨(some 87), (.fad 13 1 false), [.t 5], (some (86, false)), 63, 0⟩,
   ⟨(some 88), (.load 1 false), [.t 87], (some (86, false)), 127, 0⟩,
   ⟨(some 89), (.fad 1 1 false), [.t 5], (some (86, false)), 63, 0⟩,
   ⟨(some 90), (.load 1 false), [.t 89], (some (86, false)), 319, 0⟩,
   ⟨(some 91), (.bin .neq), [.t 88, .t 90], (some (86, false)), 1023, 0⟩,
   ⟨(some 92), .pick, [.t 86, .c (.bool true), .t 91], (some (82, true)), 2047, 0⟩,
   ⟨(some 93), .mov, [.t 92], (some (82, true)), 4095, 0⟩,
   ⟨(some 94), .mov, [.t 1], (some (93, false)), 8191, 0⟩,
   ⟨(some 95), (.bin .eql), [.t 94, .c (.int .i64 0)], (some (93, false)), 16383, 0⟩,
   ⟨(some 96), .pick, [.t 93, .c (.bool true), .t 95], (some (82, true)), 32767, 0⟩,
   ⟨(some 97), .mov, [.t 96], (some (82, true)), 65535, 0⟩,
   ⟨(some 98), .mov, [.t 0], (some (97, false)), 131071, 0⟩,
   ⟨(some 99), .nilc, [.t 98], (some (97, false)), 262143, 0⟩,
   ⟨(some 100), (.fad 0 6 true), [.t 99], (some (97, false)), 524287, 0⟩,
   ⟨(some 101), (.fad 4 1 false), [.t 100], (some (97, false)), 1048575, 0⟩,
   ⟨(some 102), (.load 1 false), [.t 101], (some (97, false)), 2097151, 0⟩,
   ⟨(some 103), .mov, [.t 1], (some (97, false)), 131071, 0⟩,
   ⟨(some 104), (.bin .sub), [.t 103, .c (.int .i64 1)], (some (97, false)), 4325375, 0⟩,
   ⟨(some 105), (.iad 24 true none), [.t 102, .t 104], (some (97, false)), 16777215, 0⟩,
   ⟨(some 106), (.fad 1 1 false), [.t 105], (some (97, false)), 33554431, 0⟩,
   ⟨(some 107), (.load 1 false), [.t 106], (some (97, false)), 67108863, 0⟩,
   ⟨(some 108), (.fad 1 1 false), [.t 5], (some (97, false)), 131071, 0⟩,
   ⟨(some 109), (.load 1 false), [.t 108], (some (97, false)), 134348799, 0⟩,
   ⟨(some 110), (.bin .neq), [.t 107, .t 109], (some (97, false)), 536870911, 0⟩,
   ⟨(some 111), .pick, [.t 97, .c (.bool true), .t 110], (some (82, true)), 1073741823, 0⟩,
   ⟨(some 112), .mov, [.t 111], (some (82, true)), 2147483647, 0⟩,
   ⟨(some 113), .mov, [.t 0], (some (112, false)), 4294967295, 0⟩,
   ⟨(some 114), .nilc, [.t 113], (some (112, false)), 8589934591, 0⟩,
   ⟨(some 115), (.fad 0 6 true), [.t 114], (some (112, false)), 17179869183, 0⟩,
   ⟨(some 116), (.fad 4 1 false), [.t 115], (some (112, false)), 34359738367, 0⟩,
   ⟨(some 117), (.load 1 false), [.t 116], (some (112, false)), 68719476735, 0⟩,
   ⟨(some 118), .mov, [.t 1], (some (112, false)), 4294967295, 0⟩,
   ⟨(some 119), (.bin .sub), [.t 118, .c (.int .i64 1)], (some (112, false)), 141733920767, 0⟩,
   ⟨(some 120), (.iad 24 true none), [.t 117, .t 119], (some (112, false)), 549755813887, 0⟩,
   ⟨(some 121), (.fad 0 1 false), [.t 120], (some (112, false)), 1099511627775, 0⟩,
   ⟨(some 122), (.load 1 false), [.t 121], (some (112, false)), 2199023255551, 0⟩,
   ⟨(some 123), (.bin .neq), [.t 122, .c (.int .i64 1)], (some (112, false)), 4398046511103, 0⟩,
   ⟨(some 124), .pick, [.t 112, .c (.bool true), .t 123], (some (82, true)), 8796093022207, 0⟩,
   ⟨(some 125), .pick, [.t 82, .t 124, .c (.bool false)], none, 17592186044415, 0⟩] true)
 (.cond (.t 125) (.seq (.reg [⟨(some 4), .mov, [.c (.bool false)], none, 0, 0⟩] false)
  .ret)
  .skip))
 (.seq (.reg [⟨(some 126), (.fad 1 2 true), [.t 6], none, 0, 0⟩,
   ⟨(some 127), (.fad 1 1 false), [.t 126], none, 0, 0⟩,
   ⟨(some 128), (.load 1 false), [.t 127], none, 0, 0⟩,
   ⟨(some 8), .mov, [.t 128], none, 0, 0⟩] false)
 (.seq (.seq (.reg [⟨(some 129), (.fad 0 1 false), [.t 5], none, 0, 0⟩,
   ⟨(some 130), (.load 1 false), [.t 129], none, 0, 0⟩,
   ⟨(some 131), (.bin .eql), [.t 130, .c (.int .i64 3)], none, 0, 0⟩] false)
 (.cond (.t 131) (.seq (.seq (.reg [⟨(some 132), .mov, [.t 8], none, 0, 0⟩,
    ⟨(some 133), (.len 1), [.t 132], none, 1, 0⟩,
    ⟨(some 134), (.bin .eql), [.t 133, .c (.int .i64 0)], none, 3, 0⟩,
    ⟨(some 135), .mov, [.t 134], none, 7, 0⟩,
    ⟨(some 136), (.fad 12 1 false), [.t 5], (some (135, false)), 15, 0⟩,
    ⟨(some 137), (.load 1 false), [.t 136], (some (135, false)), 31, 0⟩,
    ⟨(some 138), (.len 1), [.t 137], (some (135, false)), 63, 0⟩,
    ⟨(some 139), (.bin .gtr), [.t 138, .c (.int .i64 0)], (some (135, false)), 127, 0⟩,
    ⟨(some 140), .pick, [.t 135, .c (.bool true), .t 139], none, 255, 0⟩,
    ⟨(some 141), .mov, [.t 140], none, 511, 0⟩,
    ⟨(some 142), (.fad 13 1 false), [.t 5], (some (141, false)), 1023, 0⟩,
    ⟨(some 143), (.load 1 false), [.t 142], (some (141, false)), 2047, 0⟩,
    ⟨(some 144), (.bin .lss), [.t 143, .c (.int .i64 0)], (some (141, false)), 4095, 0⟩,
    ⟨(some 145), .pick, [.t 141, .c (.bool true), .t 144], none, 8191, 0⟩,
    ⟨(some 146), .mov, [.t 145], none, 16383, 0⟩,
    ⟨(some 147), (.fad 13 1 false), [.t 5], (some (146, false)), 32767, 0⟩,
    ⟨(some 148), (.load 1 false), [.t 147], (some (146, false)), 65535, 0⟩,
    ⟨(some 149), .mov, [.t 0], (some (146, false)), 32767, 0⟩,
    ⟨(some 150), .nilc, [.t 149], (some (146, false)), 163839, 0⟩,
    ⟨(some 151), (.fad 0 6 true), [.t 150], (some (146, false)), 425983, 0⟩,
    ⟨(some 152), (.fad 3 1 false), [.t 151], (some (146, false)), 950271, 0⟩,
    ⟨(some 153), (.load 1 false), [.t 152], (some (146, false)), 1998847, 0⟩,
    ⟨(some 154), (.len 1), [.t 153], (some (146, false)), 4095999, 0⟩,
    ⟨(some 155), (.bin .geq), [.t 148, .t 154], (some (146, false)), 8388607, 0⟩,
    ⟨(some 156), .pick, [.t 146, .c (.bool true), .t 155], none, 16777215, 0⟩,
    ⟨(some 157), .mov, [.t 156], none, 33554431, 0⟩,
    ⟨(some 158), .mov, [.t 0], (some (157, false)), 67108863, 0⟩,
    ⟨(some 159), .nilc, [.t 158], (some (157, false)), 134217727, 0⟩,
    ⟨(some 160), (.fad 6 1 false), [.t 159], (some (157, false)), 268435455, 0⟩,
    ⟨(some 161), (.load 1 false), [.t 160], (some (157, false)), 536870911, 0⟩,
    ⟨(some 162), (.fad 13 1 false), [.t 5], (some (157, false)), 67108863, 0⟩,
    ⟨(some 163), (.load 1 false), [.t 162], (some (157, false)), 1140850687, 0⟩,
    ⟨(some 164), (.iad 1 false none), [.t 161, .t 163], (some (157, false)), 4294967295, 0⟩,
    ⟨(some 165), (.load 1 false), [.t 164], (some (157, false)), 8589934591, 0⟩,
    ⟨(some 166), (.un .not), [.t 165], (some (157, false)), 17179869183, 0⟩,
    ⟨(some 167), .pick, [.t 157, .c (.bool true), .t 166], none, 34359738367, 0⟩,
    ⟨(some 168), .mov, [.t 167], none, 68719476735, 0⟩,
    ⟨(some 169), .mov, [.t 0], (some (168, false)), 137438953471, 0⟩,
    ⟨(some 170), .nilc, [.t 169], (some (168, false)), 274877906943, 0⟩,
    ⟨(some 171), (.fad 0 6 true), [.t 170], (some (168, false)), 549755813887, 0⟩,
    ⟨(some 172), (.fad 3 1 false), [.t 171], (some (168, false)), 1099511627775, 0⟩,
    ⟨(some 173), (.load 1 false), [.t 172], (some (168, false)), 2199023255551, 0⟩,
    ⟨(some 174), (.fad 13 1 false), [.t 5], (some (168, false)), 137438953471, 0⟩,
    ⟨(some 175), (.load 1 false), [.t 174], (some (168, false)), 4535485464575, 0⟩,
    ⟨(some 176), (.iad 3 true none), [.t 173, .t 175], (some (168, false)), 17592186044415, 0⟩,
    ⟨(some 177), (.load 3 true), [.t 176], (some (168, false)), 35184372088831, 0⟩,
    ⟨(some 178), (.load 3 true), [.t 6], (some (168, false)), 137438953471, 0⟩,
    ⟨(some 179), (.call 65 false false), [.t 177, .t 178], (some (168, false)), 140737488355327, 17⟩,
    ⟨(some 180), (.un .not), [.t 179], (some (168, false)), 281474976710655, 0⟩,
    ⟨(some 181), .pick, [.t 168, .c (.bool true), .t 180], none, 562949953421311, 0⟩] true)
  (.cond (.t 181) (.seq (.reg [⟨(some 4), .mov, [.c (.bool false)], none, 0, 0⟩] false)
   .ret)
   .skip))
  (.reg [⟨(some 182), .mov, [.t 8], none, 0, 0⟩,
    ⟨(some 183), .mov, [.t 8], none, 0, 0⟩,
    ⟨(some 184), (.len 1), [.t 183], none, 0, 0⟩,
    ⟨(some 185), (.bin .sub), [.t 184, .c (.int .i64 1)], none, 0, 0⟩,
    ⟨(some 186), (.slc 2 false true false), [.t 182, .t 185], none, 0, 0⟩,
    ⟨(some 8), .mov, [.t 186], none, 0, 0⟩] false))
  (.seq (.reg [⟨(some 187), (.fad 13 1 false), [.t 5], none, 0, 0⟩,
    ⟨(some 188), (.load 1 false), [.t 187], none, 0, 0⟩,
    ⟨(some 189), (.bin .neq), [.t 188, .c (.int .i64 0)], none, 0, 0⟩,
    ⟨(some 190), .mov, [.t 189], none, 0, 0⟩,
    ⟨(some 191), (.fad 23 1 false), [.t 5], (some (190, false)), 0, 0⟩,
    ⟨(some 192), (.load 1 false), [.t 191], (some (190, false)), 0, 0⟩,
    ⟨(some 193), (.bin .neq), [.t 192, .c (.int .i64 0)], (some (190, false)), 0, 0⟩,
    ⟨(some 194), .pick, [.t 190, .c (.bool true), .t 193], none, 0, 0⟩,
    ⟨(some 195), .mov, [.t 194], none, 0, 0⟩,
    ⟨(some 196), (.fad 14 9 true), [.t 5], (some (195, false)), 0, 0⟩,
    ⟨(some 197), (.load 9 true), [.t 196], (some (195, false)), 0, 0⟩,
    ⟨(some 198), (.call 66 false false), [.t 197], (some (195, false)), 0, 21⟩,
    ⟨(some 199), (.un .not), [.t 198], (some (195, false)), 0, 0⟩,
    ⟨(some 200), .pick, [.t 195, .c (.bool true), .t 199], none, 0, 0⟩] false)
  (.cond (.t 200) (.seq (.reg [⟨(some 4), .mov, [.c (.bool false)], none, 0, 0⟩] false)
   .ret)
   .skip))))
 (.seq (.seq (.reg [⟨(some 201), (.fad 2 1 false), [.t 5], none, 0, 0⟩,
   ⟨(some 202), (.load 1 false), [.t 201], none, 0, 0⟩,
   ⟨(some 203), .mov, [.t 8], none, 0, 0⟩,
   ⟨(some 204), (.call 67 false false), [.t 202, .t 203, .f 68], none, 0, 25⟩,
   ⟨(some 205), (.un .not), [.t 204], none, 0, 0⟩] false)
 (.cond (.t 205) (.seq (.reg [⟨(some 4), .mov, [.c (.bool false)], none, 0, 0⟩] false)
  .ret)
  .skip))
 (.seq (.reg [⟨(some 9), .mov, [.c (.int .i64 (-1))], none, 0, 0⟩] false)
 (.seq (.seq (.reg [⟨(some 206), .mov, [.t 7], none, 0, 0⟩] false)
 (.cond (.t 206) (.reg [⟨(some 207), (.fad 1 1 false), [.t 5], none, 0, 0⟩,
    ⟨(some 208), (.load 1 false), [.t 207], none, 0, 0⟩,
    ⟨(some 9), .mov, [.t 208], none, 0, 0⟩] false)
  .skip))
 (.seq (.seq (.reg [⟨(some 209), (.fad 0 1 false), [.t 5], none, 0, 0⟩,
   ⟨(some 210), (.load 1 false), [.t 209], none, 0, 0⟩] false)
 (.block 0 (.seq (.reg [⟨(some 212), (.bin .eql), [.t 210, .c (.int .i64 1)], none, 0, 0⟩,
    ⟨(some 211), .mov, [.t 212], none, 0, 0⟩] false)
  (.cond (.t 211) (.seq (.reg [⟨(some 213), (.fad 12 1 false), [.t 5], none, 0, 0⟩,
     ⟨(some 214), (.load 1 false), [.t 213], none, 0, 0⟩,
     ⟨(some 215), (.len 1), [.t 214], none, 0, 0⟩,
     ⟨(some 216), (.bin .eql), [.t 215, .c (.int .i64 0)], none, 0, 0⟩,
     ⟨(some 217), .mov, [.t 216], none, 0, 0⟩,
     ⟨(some 218), .mov, [.t 0], (some (217, true)), 0, 0⟩,
     ⟨(some 219), (.fad 3 9 true), [.t 5], (some (217, true)), 0, 0⟩,
     ⟨(some 220), (.load 9 true), [.t 219], (some (217, true)), 0, 0⟩,
     ⟨(some 221), .mov, [.t 8], (some (217, true)), 0, 0⟩,
     ⟨(some 222), (.len 1), [.t 221], (some (217, true)), 0, 0⟩,
     ⟨(some 223), .mov, [.t 9], (some (217, true)), 0, 0⟩,
     ⟨(some 224), (.call 69 false false), [.t 218, .t 220, .t 222, .t 223], (some (217, true)), 0, 29⟩,
     ⟨(some 225), .pick, [.t 217, .t 224, .c (.bool false)], none, 0, 0⟩,
     ⟨(some 4), .mov, [.t 225], none, 0, 0⟩] false)
   .ret)
   (.seq (.reg [⟨(some 227), (.bin .eql), [.t 210, .c (.int .i64 2)], none, 0, 0⟩,
     ⟨(some 226), .mov, [.t 227], none, 0, 0⟩] false)
   (.cond (.t 226) (.seq (.reg [⟨(some 228), .mov, [.t 8], none, 0, 0⟩,
      ⟨(some 229), (.len 1), [.t 228], none, 0, 0⟩,
      ⟨(some 230), (.bin .gtr), [.t 229, .c (.int .i64 0)], none, 0, 0⟩,
      ⟨(some 231), .mov, [.t 230], none, 0, 0⟩,
      ⟨(some 232), (.fad 12 1 false), [.t 5], (some (231, true)), 0, 0⟩,
      ⟨(some 233), (.load 1 false), [.t 232], (some (231, true)), 0, 0⟩,
      ⟨(some 234), (.call 70 false false), [.t 233, .c (.int .i64 2)], (some (231, true)), 0, 33⟩,
      ⟨(some 235), .pick, [.t 231, .t 234, .c (.bool false)], none, 0, 0⟩,
      ⟨(some 236), .mov, [.t 235], none, 0, 0⟩,
      ⟨(some 237), .mov, [.t 0], (some (236, true)), 0, 0⟩,
      ⟨(some 238), (.fad 3 9 true), [.t 5], (some (236, true)), 0, 0⟩,
      ⟨(some 239), (.load 9 true), [.t 238], (some (236, true)), 0, 0⟩,
      ⟨(some 240), .mov, [.t 8], (some (236, true)), 0, 0⟩,
      ⟨(some 241), (.len 1), [.t 240], (some (236, true)), 0, 0⟩,
      ⟨(some 242), .mov, [.t 9], (some (236, true)), 0, 0⟩,
      ⟨(some 243), (.call 69 false false), [.t 237, .t 239, .t 241, .t 242], (some (236, true)), 0, 37⟩,
      ⟨(some 244), .pick, [.t 236, .t 243, .c (.bool false)], none, 0, 0⟩,
      ⟨(some 4), .mov, [.t 244], none, 0, 0⟩] false)
    .ret)
    (.seq (.reg [⟨(some 246), (.bin .eql), [.t 210, .c (.int .i64 3)], none, 0, 0⟩,
      ⟨(some 245), .mov, [.t 246], none, 0, 0⟩] false)
    (.cond (.t 245) (.seq (.reg [⟨(some 247), .mov, [.t 0], none, 0, 0⟩,
       ⟨(some 248), (.fad 3 9 true), [.t 5], none, 0, 0⟩,
       ⟨(some 249), (.load 9 true), [.t 248], none, 0, 0⟩,
       ⟨(some 250), .mov, [.t 8], none, 0, 0⟩,
       ⟨(some 251), (.len 1), [.t 250], none, 0, 0⟩,
       ⟨(some 252), .mov, [.t 9], none, 0, 0⟩,
       ⟨(some 253), (.call 69 false false), [.t 247, .t 249, .t 251, .t 252], none, 0, 41⟩,
       ⟨(some 254), .mov, [.t 253], none, 0, 0⟩,
       ⟨(some 255), .mov, [.t 0], (some (254, true)), 0, 0⟩,
       ⟨(some 256), (.fad 14 9 true), [.t 5], (some (254, true)), 0, 0⟩,
       ⟨(some 257), (.load 9 true), [.t 256], (some (254, true)), 0, 0⟩,
       ⟨(some 258), .mov, [.t 8], (some (254, true)), 0, 0⟩,
       ⟨(some 259), (.len 1), [.t 258], (some (254, true)), 0, 0⟩,
       ⟨(some 260), .mov, [.t 9], (some (254, true)), 0, 0⟩,
       ⟨(some 261), (.call 69 false false), [.t 255, .t 257, .t 259, .t 260], (some (254, true)), 0, 45⟩,
       ⟨(some 262), .pick, [.t 254, .t 261, .c (.bool false)], none, 0, 0⟩,
       ⟨(some 4), .mov, [.t 262], none, 0, 0⟩] false)
     .ret)
     .skip))))))))
 (.seq (.reg [⟨(some 4), .mov, [.c (.bool false)], none, 0, 0⟩] false)
 .ret))))))))))))))⟩
def cf45 : CF := ⟨2, 9, [.inl 4],
 (.seq (.reg [⟨(some 4), .mov, [.c (.bool false)], none, 0, 0⟩] false)
 (.seq (.reg [⟨(some 5), .mov, [.t 0], none, 0, 0⟩,
   ⟨(some 6), .mov, [.t 1], none, 0, 0⟩,
   ⟨(some 7), (.call 71 false false), [.t 5, .t 6], none, 0, 1⟩,
   ⟨(some 8), (.bin .geq), [.t 7, .c (.int .i64 0)], none, 0, 0⟩,
   ⟨(some 4), .mov, [.t 8], none, 0, 0⟩] false)
 .ret))⟩
def cf46 : CF := ⟨3, 24, [.inl 4],
 (.seq (.reg [⟨(some 4), .mov, [.c (.bool false)], none, 0, 0⟩] false)
 (.seq (.reg [⟨(some 5), .mov, [.t 0], none, 0, 0⟩,
   ⟨(some 6), (.bin .lss), [.t 5, .c (.int .i64 0)], none, 0, 0⟩,
   ⟨(some 7), .mov, [.t 6], none, 0, 0⟩,
   ⟨(some 8), .mov, [.t 0], (some (7, false)), 0, 0⟩,
   ⟨(some 9), (.fad 3 1 false), [.t 1], (some (7, false)), 0, 0⟩,
   ⟨(some 10), (.load 1 false), [.t 9], (some (7, false)), 0, 0⟩,
   ⟨(some 11), (.len 1), [.t 10], (some (7, false)), 0, 0⟩,
   ⟨(some 12), (.bin .geq), [.t 8, .t 11], (some (7, false)), 0, 0⟩,
   ⟨(some 13), .pick, [.t 7, .c (.bool true), .t 12], none, 0, 0⟩,
   ⟨(some 14), .mov, [.t 13], none, 0, 0⟩,
   ⟨(some 15), (.load 1 false), [.t 2], (some (14, false)), 0, 0⟩,
   ⟨(some 16), .nilc, [.t 15], (some (14, false)), 0, 0⟩,
   ⟨(some 17), (.fad 6 1 false), [.t 16], (some (14, false)), 0, 0⟩,
   ⟨(some 18), (.load 1 false), [.t 17], (some (14, false)), 0, 0⟩,
   ⟨(some 19), .mov, [.t 0], (some (14, false)), 0, 0⟩,
   ⟨(some 20), (.iad 1 false none), [.t 18, .t 19], (some (14, false)), 0, 0⟩,
   ⟨(some 21), (.load 1 false), [.t 20], (some (14, false)), 0, 0⟩,
   ⟨(some 22), (.un .not), [.t 21], (some (14, false)), 0, 0⟩,
   ⟨(some 23), .pick, [.t 14, .c (.bool true), .t 22], none, 0, 0⟩,
   ⟨(some 4), .mov, [.t 23], none, 0, 0⟩] false)
 .ret))⟩
def cf47 : CF := ⟨2, 30, [.inl 4, .inl 5],
 (.seq (.reg [⟨(some 4), .mov, [.c (.int .u64 0)], none, 0, 0⟩,
   ⟨(some 5), .mov, [.c (.int .u64 0)], none, 0, 0⟩] false)
 (.seq (.cond (.c (.bool false)) (.seq (.reg [⟨(some 11), .mov, [.t 0], none, 0, 0⟩,
    ⟨(some 12), (.cvi .u32), [.t 11], none, 0, 0⟩,
    ⟨(some 13), .mov, [.t 1], none, 0, 0⟩,
    ⟨(some 14), (.cvi .u32), [.t 13], none, 0, 0⟩,
    ⟨(some 15), (.call 72 false false), [.t 12, .t 14], none, 0, 1⟩,
    ⟨(some 10), .mov, [.t 15], none, 0, 0⟩,
    ⟨(some 16), (.ext 0), [.t 10], none, 0, 0⟩,
    ⟨(some 17), (.ext 1), [.t 10], none, 0, 0⟩,
    ⟨(some 6), .mov, [.t 16], none, 0, 0⟩,
    ⟨(some 7), .mov, [.t 17], none, 0, 0⟩] false)
  (.seq (.reg [⟨(some 18), .mov, [.t 6], none, 0, 0⟩,
    ⟨(some 19), (.cvi .u64), [.t 18], none, 0, 0⟩,
    ⟨(some 20), .mov, [.t 7], none, 0, 0⟩,
    ⟨(some 21), (.cvi .u64), [.t 20], none, 0, 0⟩,
    ⟨(some 4), .mov, [.t 19], none, 0, 0⟩,
    ⟨(some 5), .mov, [.t 21], none, 0, 0⟩] false)
  .ret))
  .skip)
 (.seq (.reg [⟨(some 23), .mov, [.t 0], none, 0, 0⟩,
   ⟨(some 24), .mov, [.t 1], none, 0, 0⟩,
   ⟨(some 25), (.call 73 false false), [.t 23, .t 24], none, 0, 5⟩,
   ⟨(some 22), .mov, [.t 25], none, 0, 0⟩,
   ⟨(some 26), (.ext 0), [.t 22], none, 0, 0⟩,
   ⟨(some 27), (.ext 1), [.t 22], none, 0, 0⟩,
   ⟨(some 8), .mov, [.t 26], none, 0, 0⟩,
   ⟨(some 9), .mov, [.t 27], none, 0, 0⟩] false)
 (.seq (.reg [⟨(some 28), .mov, [.t 8], none, 0, 0⟩,
   ⟨(some 29), .mov, [.t 9], none, 0, 0⟩,
   ⟨(some 4), .mov, [.t 28], none, 0, 0⟩,
   ⟨(some 5), .mov, [.t 29], none, 0, 0⟩] false)
 .ret))))⟩
def cf48 : CF := ⟨1, 13, [.inl 2],
 (.seq (.reg [⟨(some 1), .box, [.t 0], none, 0, 1⟩,
   ⟨(some 2), .mov, [.c (.sl true [] true)], none, 0, 0⟩] false)
 (.seq (.reg [⟨(some 3), (.alloc [(.sl true [] true)] false), [], none, 0, 5⟩] false)
 (.seq (.reg [⟨(some 4), (.alloc [.nilf] false), [], none, 0, 9⟩] false)
 (.seq (.reg [⟨(some 5), (.mkf 74), [.t 3, .t 4], none, 0, 0⟩,
   ⟨none, (.store 1 false), [.t 4, .t 5], none, 0, 0⟩] false)
 (.seq (.reg [⟨(some 6), (.load 1 false), [.t 4], none, 0, 0⟩,
   ⟨(some 7), (.load 9 true), [.t 1], none, 0, 0⟩,
   ⟨(some 8), (.callv false false), [.t 6, .t 7], none, 0, 13⟩] false)
 (.seq (.reg [⟨(some 9), (.load 1 false), [.t 3], none, 0, 0⟩,
   ⟨(some 10), (.call 75 false true), [.t 9], none, 0, 17⟩] false)
 (.seq (.reg [⟨(some 11), (.load 1 false), [.t 3], none, 0, 0⟩,
   ⟨(some 12), (.call 76 false true), [.t 11], none, 0, 21⟩,
   ⟨(some 2), .mov, [.t 12], none, 0, 0⟩] false)
 .ret)))))))⟩
def cf51M0 : List Bool := [false, true, false, false, false, false, true, true, true, false, false, false, false, false, false, false, false, false, false, false, false, false, false, false, false, false, false, false, false, false, false, false, false, false, false, false, false, false, false, false, false, false, false, false, false, false, false, false, false, false, false, false, false, false]
def cf51E0 (t1 t6 t7 t8 : AV) : List AV := [.top, t1, .top, .top, .top, .top, t6, t7, t8, .top, .top, .top, .top, .top, .top, .top, .top, .top, .top, .top, .top, .top, .top, .top, .top, .top, .top, .top, .top, .top, .top, .top, .top, .top, .top, .top, .top, .top, .top, .top, .top, .top, .top, .top, .top, .top, .top, .top, .top, .top, .top, .top, .top, .top]
def cf51L0 : C :=
 (.seq (.reg [⟨(some 9), (.bin .lss), [.t 8, .t 7], none, 0, 0⟩] false)
 (.seq (.cond (.t 9) .skip
  (.exit 0))
 (.seq (.block 1 (.seq (.reg [⟨(some 10), .mov, [.t 8], none, 0, 0⟩,
    ⟨(some 11), (.iad 2 true none), [.t 6, .t 8], none, 0, 0⟩,
    ⟨(some 12), (.load 2 true), [.t 11], none, 0, 0⟩,
    ⟨(some 4), (.alloc [(.str []), (.int .i64 0)] true), [], none, 0, 5⟩,
    ⟨(some 3), .mov, [.t 10], none, 0, 0⟩,
    ⟨none, (.store 2 true), [.t 4, .t 12], none, 0, 0⟩] false)
  (.seq (.reg [⟨(some 13), (.fad 0 1 false), [.t 4], none, 0, 0⟩,
    ⟨(some 14), (.load 1 false), [.t 13], none, 1, 0⟩,
    ⟨(some 15), (.call 57 false false), [.t 14], none, 3, 9⟩,
    ⟨(some 16), (.un .not), [.t 15], none, 7, 0⟩,
    ⟨(some 17), .mov, [.t 16], none, 15, 0⟩,
    ⟨(some 18), (.fad 1 1 false), [.t 4], (some (17, false)), 31, 0⟩,
    ⟨(some 19), (.load 1 false), [.t 18], (some (17, false)), 63, 0⟩,
    ⟨(some 20), (.bin .eql), [.t 19, .c (.int .i64 0)], (some (17, false)), 127, 0⟩,
    ⟨(some 21), .pick, [.t 17, .c (.bool true), .t 20], none, 255, 0⟩,
    ⟨(some 22), .mov, [.t 21], none, 511, 0⟩,
    ⟨(some 23), (.fad 1 1 false), [.t 4], (some (22, false)), 1023, 0⟩,
    ⟨(some 24), (.load 1 false), [.t 23], (some (22, false)), 2047, 0⟩,
    ⟨(some 25), (.call 89 false false), [.t 24], (some (22, false)), 4095, 13⟩,
    ⟨(some 26), (.un .not), [.t 25], (some (22, false)), 8191, 0⟩,
    ⟨(some 27), .pick, [.t 22, .c (.bool true), .t 26], none, 16383, 0⟩,
    ⟨(some 28), .mov, [.t 27], none, 32767, 0⟩,
    ⟨(some 29), .mov, [.t 3], (some (28, false)), 65535, 0⟩,
    ⟨(some 30), (.bin .gtr), [.t 29, .c (.int .i64 0)], (some (28, false)), 131071, 0⟩,
    ⟨(some 31), .mov, [.t 30], (some (28, false)), 262143, 0⟩,
    ⟨(some 32), (.fad 1 1 false), [.t 1], (some (31, true)), 524287, 0⟩,
    ⟨(some 33), (.load 1 false), [.t 32], (some (31, true)), 1048575, 0⟩,
    ⟨(some 34), .mov, [.t 3], (some (31, true)), 524287, 0⟩,
    ⟨(some 35), (.bin .sub), [.t 34, .c (.int .i64 1)], (some (31, true)), 2621439, 0⟩,
    ⟨(some 36), (.iad 2 true none), [.t 33, .t 35], (some (31, true)), 8388607, 0⟩,
    ⟨(some 37), (.fad 0 1 false), [.t 36], (some (31, true)), 16777215, 0⟩,
    ⟨(some 38), (.load 1 false), [.t 37], (some (31, true)), 33554431, 0⟩,
    ⟨(some 39), (.fad 0 1 false), [.t 4], (some (31, true)), 524287, 0⟩,
    ⟨(some 40), (.load 1 false), [.t 39], (some (31, true)), 67633151, 0⟩,
    ⟨(some 41), (.bin .geq), [.t 38, .t 40], (some (31, true)), 268435455, 0⟩,
    ⟨(some 42), .pick, [.t 31, .t 41, .c (.bool false)], (some (28, false)), 536870911, 0⟩,
    ⟨(some 43), .pick, [.t 28, .c (.bool true), .t 42], none, 1073741823, 0⟩] true)
  (.cond (.t 43) (.seq (.reg [⟨(some 2), .mov, [.c (.bool false)], none, 0, 0⟩] false)
   .ret)
   .skip))))
 (.reg [⟨(some 44), (.bin .add), [.t 8, .c (.int .i64 1)], none, 0, 0⟩,
   ⟨(some 8), .mov, [.t 44], none, 0, 0⟩] false))))
def cf51 : CF := ⟨1, 54, [.inl 2],
 (.seq (.reg [⟨(some 1), .box, [.t 0], none, 0, 1⟩,
   ⟨(some 2), .mov, [.c (.bool false)], none, 0, 0⟩] false)
 (.seq (.seq (.reg [⟨(some 5), (.fad 1 1 false), [.t 1], none, 0, 0⟩,
   ⟨(some 6), (.load 1 false), [.t 5], none, 0, 0⟩,
   ⟨(some 7), (.len 1), [.t 6], none, 0, 0⟩,
   ⟨(some 8), .mov, [.c (.int .i64 0)], none, 0, 0⟩] false)
 (.block 0 (.loop cf51L0 cf51M0)))
 (.seq (.reg [⟨(some 45), (.fad 0 1 false), [.t 1], none, 0, 0⟩,
   ⟨(some 46), (.load 1 false), [.t 45], none, 0, 0⟩,
   ⟨(some 47), (.call 89 false false), [.t 46], none, 0, 17⟩,
   ⟨(some 48), .mov, [.t 47], none, 0, 0⟩,
   ⟨(some 49), (.fad 1 1 false), [.t 1], (some (48, true)), 0, 0⟩,
   ⟨(some 50), (.load 1 false), [.t 49], (some (48, true)), 0, 0⟩,
   ⟨(some 51), (.len 1), [.t 50], (some (48, true)), 0, 0⟩,
   ⟨(some 52), (.bin .leq), [.t 51, .c (.int .i64 12)], (some (48, true)), 0, 0⟩,
   ⟨(some 53), .pick, [.t 48, .t 52, .c (.bool false)], none, 0, 0⟩,
   ⟨(some 2), .mov, [.t 53], none, 0, 0⟩] false)
 .ret)))⟩
def cf52M0 : List Bool := [true, true, false, false, false, false, false, true, true, false, false, false, false, false, false, false, false, false, false]
def cf52E0 (t0 t1 t7 t8 : AV) : List AV := [t0, t1, .top, .top, .top, .top, .top, t7, t8, .top, .top, .top, .top, .top, .top, .top, .top, .top, .top]
def cf52L0 : C :=
 (.seq (.reg [⟨(some 9), (.bin .lss), [.t 8, .t 7], none, 0, 0⟩] false)
 (.seq (.cond (.t 9) .skip
  (.exit 0))
 (.seq (.block 1 (.seq (.reg [⟨(some 10), .mov, [.t 8], none, 0, 0⟩,
    ⟨(some 5), .mov, [.t 10], none, 0, 0⟩] false)
  (.seq (.reg [⟨(some 11), .mov, [.t 1], none, 0, 0⟩,
    ⟨(some 12), .mov, [.t 0], none, 0, 0⟩,
    ⟨(some 13), .mov, [.t 5], none, 0, 0⟩,
    ⟨(some 14), (.iad 2 true none), [.t 12, .t 13], none, 0, 0⟩,
    ⟨(some 15), (.load 2 true), [.t 14], none, 0, 0⟩,
    ⟨(some 16), (.callv false false), [.t 11, .t 15], none, 0, 1⟩] false)
  (.cond (.t 16) (.seq (.reg [⟨(some 17), .mov, [.t 5], none, 0, 0⟩,
     ⟨(some 4), .mov, [.t 17], none, 0, 0⟩] false)
   .ret)
   .skip))))
 (.reg [⟨(some 18), (.bin .add), [.t 8, .c (.int .i64 1)], none, 0, 0⟩,
   ⟨(some 8), .mov, [.t 18], none, 0, 0⟩] false))))
def cf52 : CF := ⟨2, 19, [.inl 4],
 (.seq (.reg [⟨(some 4), .mov, [.c (.int .i64 0)], none, 0, 0⟩] false)
 (.seq (.seq (.reg [⟨(some 6), .mov, [.t 0], none, 0, 0⟩,
   ⟨(some 7), (.len 1), [.t 6], none, 0, 0⟩,
   ⟨(some 8), .mov, [.c (.int .i64 0)], none, 0, 0⟩] false)
 (.block 0 (.loop cf52L0 cf52M0)))
 (.seq (.reg [⟨(some 4), .mov, [.c (.int .i64 (-1))], none, 0, 0⟩] false)
 .ret)))⟩
def cf53 : CF := ⟨2, 9, [.inl 3],
 (.seq (.reg [⟨(some 2), .box, [.t 0], none, 0, 1⟩,
   ⟨(some 3), .mov, [.c (.bool false)], none, 0, 0⟩] false)
 (.seq (.reg [⟨(some 4), (.fad 0 1 false), [.t 2], none, 0, 0⟩,
   ⟨(some 5), (.load 1 false), [.t 4], none, 0, 0⟩,
   ⟨(some 6), (.fad 0 1 false), [.t 1], none, 0, 0⟩,
   ⟨(some 7), (.load 1 false), [.t 6], none, 0, 0⟩,
   ⟨(some 8), (.bin .eql), [.t 5, .t 7], none, 0, 0⟩,
   ⟨(some 3), .mov, [.t 8], none, 0, 0⟩] false)
 .ret))⟩
def cf56M0 : List Bool := [false, true, false, true, false, false, false, false, false, false, false, false, false, false, false, false, false, false, false, false, false, false, false]
def cf56E0 (t1 t3 : AV) : List AV := [.top, t1, .top, t3, .top, .top, .top, .top, .top, .top, .top, .top, .top, .top, .top, .top, .top, .top, .top, .top, .top, .top, .top]
def cf56L0 : C :=
 (.seq (.seq (.reg [⟨(some 4), .mov, [.t 3], none, 0, 0⟩,
   ⟨(some 5), (.fad 1 1 false), [.t 1], none, 0, 0⟩,
   ⟨(some 6), (.load 1 false), [.t 5], none, 0, 0⟩,
   ⟨(some 7), (.len 1), [.t 6], none, 0, 0⟩,
   ⟨(some 8), (.bin .lss), [.t 4, .t 7], none, 0, 0⟩] false)
 (.cond (.t 8) .skip
  (.exit 0)))
 (.seq (.block 1 (.seq (.reg [⟨(some 11), (.fad 1 1 false), [.t 1], none, 0, 0⟩,
    ⟨(some 12), (.load 1 false), [.t 11], none, 0, 0⟩,
    ⟨(some 13), .mov, [.t 3], none, 0, 0⟩,
    ⟨(some 14), (.iad 2 true none), [.t 12, .t 13], none, 0, 0⟩,
    ⟨(some 15), (.fad 0 1 false), [.t 14], none, 0, 0⟩,
    ⟨(some 16), (.load 1 false), [.t 15], none, 0, 0⟩,
    ⟨(some 17), (.len 0), [.t 16], none, 0, 0⟩,
    ⟨(some 18), (.bin .gtr), [.t 17, .c (.int .i64 35)], none, 0, 0⟩] false)
  (.cond (.t 18) (.seq (.reg [⟨(some 2), .mov, [.c (.bool false)], none, 0, 0⟩] false)
   .ret)
   .skip)))
 (.reg [⟨(some 9), .mov, [.t 3], none, 0, 0⟩,
   ⟨(some 10), (.bin .add), [.t 9, .c (.int .i64 1)], none, 0, 0⟩,
   ⟨(some 3), .mov, [.t 10], none, 0, 0⟩] false)))
def cf56 : CF := ⟨1, 23, [.inl 2],
 (.seq (.reg [⟨(some 1), .box, [.t 0], none, 0, 1⟩,
   ⟨(some 2), .mov, [.c (.bool false)], none, 0, 0⟩] false)
 (.seq (.seq (.reg [⟨(some 3), .mov, [.c (.int .i64 0)], none, 0, 0⟩] false)
 (.block 0 (.loop cf56L0 cf56M0)))
 (.seq (.reg [⟨(some 19), (.fad 1 1 false), [.t 1], none, 0, 0⟩,
   ⟨(some 20), (.load 1 false), [.t 19], none, 0, 0⟩,
   ⟨(some 21), (.len 1), [.t 20], none, 0, 0⟩,
   ⟨(some 22), (.bin .leq), [.t 21, .c (.int .i64 14)], none, 0, 0⟩,
   ⟨(some 2), .mov, [.t 22], none, 0, 0⟩] false)
 .ret)))⟩
def cf57M0 : List Bool := [true, false, false, false, false, false, false, false, false, false, false, false, false, false, false, false, false, false, false, false, false, false, false, false, false, false, false, false, false, false, false, false, false, false, true, true, true, false, false, false, false, false, false, false, false, false, false, false, false, false, false, false, false, false, false, false, false, false, false, false, false, false, false, false, false, false, false]
def cf57E0 (t0 t34 t35 t36 : AV) : List AV := [t0, .top, .top, .top, .top, .top, .top, .top, .top, .top, .top, .top, .top, .top, .top, .top, .top, .top, .top, .top, .top, .top, .top, .top, .top, .top, .top, .top, .top, .top, .top, .top, .top, .top, t34, t35, t36, .top, .top, .top, .top, .top, .top, .top, .top, .top, .top, .top, .top, .top, .top, .top, .top, .top, .top, .top, .top, .top, .top, .top, .top, .top, .top, .top, .top, .top, .top]
def cf57L0 : C :=
 (.seq (.reg [⟨(some 37), (.bin .lss), [.t 36, .t 35], none, 0, 0⟩] false)
 (.seq (.cond (.t 37) .skip
  (.exit 0))
 (.seq (.block 1 (.seq (.reg [⟨(some 38), .mov, [.t 36], none, 0, 0⟩,
    ⟨(some 39), (.iad 1 false none), [.t 34, .t 36], none, 0, 0⟩,
    ⟨(some 40), (.load 1 false), [.t 39], none, 0, 0⟩,
    ⟨(some 5), .mov, [.t 38], none, 0, 0⟩,
    ⟨(some 6), .mov, [.t 40], none, 0, 0⟩] false)
  (.seq (.reg [⟨(some 41), .mov, [.t 6], none, 0, 0⟩,
    ⟨(some 42), (.bin .lss), [.t 41, .c (.int .u8 97)], none, 0, 0⟩,
    ⟨(some 43), .mov, [.t 42], none, 0, 0⟩,
    ⟨(some 44), .mov, [.t 6], (some (43, false)), 0, 0⟩,
    ⟨(some 45), (.bin .gtr), [.t 44, .c (.int .u8 122)], (some (43, false)), 0, 0⟩,
    ⟨(some 46), .pick, [.t 43, .c (.bool true), .t 45], none, 0, 0⟩,
    ⟨(some 47), .mov, [.t 46], none, 0, 0⟩,
    ⟨(some 48), .mov, [.t 5], (some (47, true)), 0, 0⟩,
    ⟨(some 49), (.bin .eql), [.t 48, .c (.int .i64 0)], (some (47, true)), 0, 0⟩,
    ⟨(some 50), .mov, [.t 49], (some (47, true)), 0, 0⟩,
    ⟨(some 51), .mov, [.t 6], (some (50, false)), 0, 0⟩,
    ⟨(some 52), (.bin .lss), [.t 51, .c (.int .u8 48)], (some (50, false)), 0, 0⟩,
    ⟨(some 53), .pick, [.t 50, .c (.bool true), .t 52], (some (47, true)), 0, 0⟩,
    ⟨(some 54), .mov, [.t 53], (some (47, true)), 0, 0⟩,
    ⟨(some 55), .mov, [.t 6], (some (54, false)), 0, 0⟩,
    ⟨(some 56), (.bin .gtr), [.t 55, .c (.int .u8 57)], (some (54, false)), 0, 0⟩,
    ⟨(some 57), .pick, [.t 54, .c (.bool true), .t 56], (some (47, true)), 0, 0⟩,
    ⟨(some 58), .pick, [.t 47, .t 57, .c (.bool false)], none, 0, 0⟩] false)
  (.cond (.t 58) (.seq (.reg [⟨(some 2), .mov, [.c (.bool false)], none, 0, 0⟩] false)
   .ret)
   .skip))))
 (.reg [⟨(some 59), (.bin .add), [.t 36, .c (.int .i64 1)], none, 0, 0⟩,
   ⟨(some 36), .mov, [.t 59], none, 0, 0⟩] false))))
def cf57 : CF := ⟨1, 67, [.inl 2],
 (.seq (.reg [⟨(some 2), .mov, [.c (.bool false)], none, 0, 0⟩] false)
 (.seq (.seq (.reg [⟨(some 7), .mov, [.t 0], none, 0, 0⟩,
   ⟨(some 8), (.call 91 false false), [.t 7, .c (.str [95])], none, 0, 1⟩] false)
 (.cond (.t 8) (.seq (.reg [⟨(some 10), .mov, [.t 0], none, 0, 0⟩,
    ⟨(some 11), (.sls true false), [.t 10, .c (.int .i64 1)], none, 0, 0⟩,
    ⟨(some 12), (.call 92 false false), [.t 11], none, 0, 5⟩,
    ⟨(some 9), .mov, [.t 12], none, 0, 0⟩,
    ⟨(some 13), (.ext 0), [.t 9], none, 0, 0⟩,
    ⟨(some 14), (.ext 1), [.t 9], none, 0, 0⟩,
    ⟨(some 3), .mov, [.t 13], none, 0, 0⟩,
    ⟨(some 4), .mov, [.t 14], none, 0, 0⟩] false)
  (.seq (.reg [⟨(some 15), .mov, [.t 4], none, 0, 0⟩,
    ⟨(some 16), (.eqn 4 false), [.t 15], none, 1, 0⟩,
    ⟨(some 17), .mov, [.t 16], none, 3, 0⟩,
    ⟨(some 18), .mov, [.t 3], (some (17, true)), 7, 0⟩,
    ⟨(some 19), (.bin .gtr), [.t 18, .c (.int .i64 0)], (some (17, true)), 15, 0⟩,
    ⟨(some 20), .pick, [.t 17, .t 19, .c (.bool false)], none, 31, 0⟩,
    ⟨(some 21), .mov, [.t 20], none, 63, 0⟩,
    ⟨(some 22), .mov, [.t 0], (some (21, true)), 127, 0⟩,
    ⟨(some 23), (.len 0), [.t 22], (some (21, true)), 255, 0⟩,
    ⟨(some 24), (.bin .leq), [.t 23, .c (.int .i64 10)], (some (21, true)), 511, 0⟩,
    ⟨(some 25), .pick, [.t 21, .t 24, .c (.bool false)], none, 1023, 0⟩,
    ⟨(some 26), .mov, [.t 25], none, 2047, 0⟩,
    ⟨(some 27), .mov, [.t 3], (some (26, true)), 4095, 0⟩,
    ⟨(some 28), (.call 93 false false), [.t 27], (some (26, true)), 8191, 9⟩,
    ⟨(some 29), .mov, [.t 0], (some (26, true)), 4095, 0⟩,
    ⟨(some 30), (.sls true false), [.t 29, .c (.int .i64 1)], (some (26, true)), 20479, 0⟩,
    ⟨(some 31), (.bin .eql), [.t 28, .t 30], (some (26, true)), 65535, 0⟩,
    ⟨(some 32), .pick, [.t 26, .t 31, .c (.bool false)], none, 131071, 0⟩,
    ⟨(some 2), .mov, [.t 32], none, 262143, 0⟩] true)
  .ret))
  .skip))
 (.seq (.seq (.reg [⟨(some 33), .mov, [.t 0], none, 0, 0⟩,
   ⟨(some 34), .s2b, [.t 33], none, 0, 0⟩,
   ⟨(some 35), (.len 1), [.t 34], none, 0, 0⟩,
   ⟨(some 36), .mov, [.c (.int .i64 0)], none, 0, 0⟩] false)
 (.block 0 (.loop cf57L0 cf57M0)))
 (.seq (.reg [⟨(some 60), .mov, [.t 0], none, 0, 0⟩,
   ⟨(some 61), (.bin .neq), [.t 60, .c (.str [])], none, 0, 0⟩,
   ⟨(some 62), .mov, [.t 61], none, 0, 0⟩,
   ⟨(some 63), .mov, [.t 0], (some (62, true)), 0, 0⟩,
   ⟨(some 64), (.len 0), [.t 63], (some (62, true)), 0, 0⟩,
   ⟨(some 65), (.bin .leq), [.t 64, .c (.int .i64 30)], (some (62, true)), 0, 0⟩,
   ⟨(some 66), .pick, [.t 62, .t 65, .c (.bool false)], none, 0, 0⟩,
   ⟨(some 2), .mov, [.t 66], none, 0, 0⟩] false)
 .ret))))⟩
def cf58 : CF := ⟨1, 22, [.inl 2],
 (.seq (.reg [⟨(some 2), .mov, [.c (.bool false)], none, 0, 0⟩] false)
 (.seq (.reg [⟨(some 3), .mov, [.t 0], none, 0, 0⟩,
   ⟨(some 4), (.len 0), [.t 3], none, 0, 0⟩,
   ⟨(some 5), (.bin .gtr), [.t 4, .c (.int .i64 1)], none, 0, 0⟩,
   ⟨(some 6), .mov, [.t 5], none, 0, 0⟩,
   ⟨(some 7), .mov, [.t 0], (some (6, true)), 0, 0⟩,
   ⟨(some 8), .ixs, [.t 7, .c (.int .i64 0)], (some (6, true)), 0, 0⟩,
   ⟨(some 9), (.bin .eql), [.t 8, .c (.int .u8 105)], (some (6, true)), 0, 0⟩,
   ⟨(some 10), .mov, [.t 9], (some (6, true)), 0, 0⟩,
   ⟨(some 11), .mov, [.t 0], (some (10, false)), 0, 0⟩,
   ⟨(some 12), .ixs, [.t 11, .c (.int .i64 0)], (some (10, false)), 0, 0⟩,
   ⟨(some 13), (.bin .eql), [.t 12, .c (.int .u8 106)], (some (10, false)), 0, 0⟩,
   ⟨(some 14), .pick, [.t 10, .c (.bool true), .t 13], (some (6, true)), 0, 0⟩,
   ⟨(some 15), .pick, [.t 6, .t 14, .c (.bool false)], none, 0, 0⟩,
   ⟨(some 16), .mov, [.t 15], none, 0, 0⟩,
   ⟨(some 17), .mov, [.t 0], (some (16, true)), 0, 0⟩,
   ⟨(some 18), (.sls true false), [.t 17, .c (.int .i64 1)], (some (16, true)), 0, 0⟩,
   ⟨(some 19), (.call 94 false false), [.t 18, .c (.str [48, 49, 50, 51, 52, 53, 54, 55, 56, 57])], (some (16, true)), 0, 1⟩,
   ⟨(some 20), (.bin .eql), [.t 19, .c (.str [])], (some (16, true)), 0, 0⟩,
   ⟨(some 21), .pick, [.t 16, .t 20, .c (.bool false)], none, 0, 0⟩,
   ⟨(some 2), .mov, [.t 21], none, 0, 0⟩] false)
 .ret))⟩
def cf59M0 : List Bool := [false, false, false, true, false, false, false, true, true, true, false, false, false, false, false, false, false, false, false, false, false, false, false]
def cf59E0 (t3 t7 t8 t9 : AV) : List AV := [.top, .top, .top, t3, .top, .top, .top, t7, t8, t9, .top, .top, .top, .top, .top, .top, .top, .top, .top, .top, .top, .top, .top]
def cf59L0 : C :=
 (.seq (.reg [⟨(some 10), (.bin .lss), [.t 9, .t 8], none, 0, 0⟩] false)
 (.seq (.cond (.t 10) .skip
  (.exit 0))
 (.seq (.block 1 (.seq (.reg [⟨(some 11), (.iad 2 true none), [.t 7, .t 9], none, 0, 0⟩,
    ⟨(some 12), (.load 2 true), [.t 11], none, 0, 0⟩,
    ⟨(some 6), (.alloc [(.int .i64 0), (.sl true [] true)] true), [], none, 0, 5⟩,
    ⟨none, (.store 2 true), [.t 6, .t 12], none, 0, 0⟩] false)
  (.seq (.reg [⟨(some 13), (.load 2 true), [.t 6], none, 0, 0⟩,
    ⟨(some 14), (.call 51 false false), [.t 13], none, 0, 9⟩,
    ⟨(some 15), (.un .not), [.t 14], none, 0, 0⟩,
    ⟨(some 16), .mov, [.t 15], none, 0, 0⟩,
    ⟨(some 17), (.load 2 true), [.t 6], (some (16, false)), 0, 0⟩,
    ⟨(some 18), (.call 96 false false), [.t 17], (some (16, false)), 0, 13⟩,
    ⟨(some 19), (.mkf 97), [.t 3], (some (16, false)), 0, 0⟩,
    ⟨(some 20), (.call 95 false false), [.t 18, .t 19], (some (16, false)), 0, 17⟩,
    ⟨(some 21), .pick, [.t 16, .c (.bool true), .t 20], none, 0, 0⟩] false)
  (.cond (.t 21) (.seq (.reg [⟨(some 4), .mov, [.c (.bool false)], none, 0, 0⟩] false)
   .ret)
   .skip))))
 (.reg [⟨(some 22), (.bin .add), [.t 9, .c (.int .i64 1)], none, 0, 0⟩,
   ⟨(some 9), .mov, [.t 22], none, 0, 0⟩] false))))
def cf59 : CF := ⟨2, 23, [.inl 4],
 (.seq (.reg [⟨(some 3), .box, [.t 1], none, 0, 1⟩,
   ⟨(some 4), .mov, [.c (.bool false)], none, 0, 0⟩] false)
 (.seq (.seq (.reg [⟨(some 7), .mov, [.t 0], none, 0, 0⟩,
   ⟨(some 8), (.len 1), [.t 7], none, 0, 0⟩,
   ⟨(some 9), .mov, [.c (.int .i64 0)], none, 0, 0⟩] false)
 (.block 0 (.loop cf59L0 cf59M0)))
 (.seq (.reg [⟨(some 4), .mov, [.c (.bool true)], none, 0, 0⟩] false)
 .ret)))⟩
def cf60 : CF := ⟨2, 9, [.inl 4],
 (.seq (.reg [⟨(some 4), .mov, [.c (.bool false)], none, 0, 0⟩] false)
 (.seq (.reg [⟨(some 5), .mov, [.t 0], none, 0, 0⟩,
   ⟨(some 6), .mov, [.t 1], none, 0, 0⟩,
   ⟨(some 7), (.call 99 false false), [.t 5, .t 6], none, 0, 1⟩,
   ⟨(some 8), (.bin .geq), [.t 7, .c (.int .i64 0)], none, 0, 0⟩,
   ⟨(some 4), .mov, [.t 8], none, 0, 0⟩] false)
 .ret))⟩
def cf61 : CF := ⟨2, 9, [.inl 3],
 (.seq (.reg [⟨(some 2), .box, [.t 0], none, 0, 1⟩,
   ⟨(some 3), .mov, [.c (.bool false)], none, 0, 0⟩] false)
 (.seq (.reg [⟨(some 4), (.load 3 true), [.t 2], none, 0, 0⟩,
   ⟨(some 5), (.fad 0 1 false), [.t 1], none, 0, 0⟩,
   ⟨(some 6), (.load 1 false), [.t 5], none, 0, 0⟩,
   ⟨(some 7), (.call 62 false false), [.t 4, .t 6], none, 0, 5⟩,
   ⟨(some 8), (.un .not), [.t 7], none, 0, 0⟩,
   ⟨(some 3), .mov, [.t 8], none, 0, 0⟩] false)
 .ret))⟩
def cf62 : CF := ⟨2, 26, [.inl 4],
 (.seq (.reg [⟨(some 2), .box, [.t 0], none, 0, 1⟩,
   ⟨(some 4), .mov, [.c (.bool false)], none, 0, 0⟩] false)
 (.seq (.reg [⟨(some 5), (.load 3 true), [.t 2], none, 0, 0⟩,
   ⟨(some 6), (.call 100 false false), [.t 5], none, 0, 5⟩,
   ⟨(some 7), .mov, [.t 6], none, 0, 0⟩,
   ⟨(some 8), (.fad 0 1 false), [.t 2], (some (7, true)), 0, 0⟩,
   ⟨(some 9), (.load 1 false), [.t 8], (some (7, true)), 0, 0⟩,
   ⟨(some 10), (.call 101 false false), [.t 9], (some (7, true)), 0, 9⟩,
   ⟨(some 11), (.un .not), [.t 10], (some (7, true)), 0, 0⟩,
   ⟨(some 12), .pick, [.t 7, .t 11, .c (.bool false)], none, 0, 0⟩,
   ⟨(some 13), .mov, [.t 12], none, 0, 0⟩,
   ⟨(some 14), (.fad 1 2 true), [.t 2], (some (13, true)), 0, 0⟩,
   ⟨(some 15), (.fad 0 1 false), [.t 14], (some (13, true)), 0, 0⟩,
   ⟨(some 16), (.load 1 false), [.t 15], (some (13, true)), 0, 0⟩,
   ⟨(some 17), (.bin .eql), [.t 16, .c (.str [])], (some (13, true)), 0, 0⟩,
   ⟨(some 18), .pick, [.t 13, .t 17, .c (.bool false)], none, 0, 0⟩,
   ⟨(some 19), .mov, [.t 18], none, 0, 0⟩,
   ⟨(some 20), (.fad 1 2 true), [.t 2], (some (19, true)), 0, 0⟩,
   ⟨(some 21), (.fad 1 1 false), [.t 20], (some (19, true)), 0, 0⟩,
   ⟨(some 22), (.load 1 false), [.t 21], (some (19, true)), 0, 0⟩,
   ⟨(some 23), .mov, [.t 1], (some (19, true)), 0, 0⟩,
   ⟨(some 24), (.call 59 false false), [.t 22, .t 23], (some (19, true)), 0, 13⟩,
   ⟨(some 25), .pick, [.t 19, .t 24, .c (.bool false)], none, 0, 0⟩,
   ⟨(some 4), .mov, [.t 25], none, 0, 0⟩] false)
 .ret))⟩
def cf63M0 : List Bool := [true, false, false, true, false, true, false, false, false, true, true, true, false, false, false, false, false, false, false, false, false, false, false, false, false, false, false, false, false, false, false, false, false, false, false, false, false, false, false, false, false, false, false, false, false, false, false, false, false, false, false, false, false, false, false, false, false, false, false, false, false, false, false, false, false, false, false, false, false, false, false, false, false, false, false, false, false, false, false, false, false, false, false, false, false, false, false, false, false, false, false, false, false, false, false, false, false, false, false, false, false, false, false, false, false, false, false, false, false]
def cf63E0 (t0 t3 t5 t9 t10 t11 : AV) : List AV := [t0, .top, .top, t3, .top, t5, .top, .top, .top, t9, t10, t11, .top, .top, .top, .top, .top, .top, .top, .top, .top, .top, .top, .top, .top, .top, .top, .top, .top, .top, .top, .top, .top, .top, .top, .top, .top, .top, .top, .top, .top, .top, .top, .top, .top, .top, .top, .top, .top, .top, .top, .top, .top, .top, .top, .top, .top, .top, .top, .top, .top, .top, .top, .top, .top, .top, .top, .top, .top, .top, .top, .top, .top, .top, .top, .top, .top, .top, .top, .top, .top, .top, .top, .top, .top, .top, .top, .top, .top, .top, .top, .top, .top, .top, .top, .top, .top, .top, .top, .top, .top, .top, .top, .top, .top, .top, .top, .top, .top]
def cf63L0 : C :=
 (.seq (.reg [⟨(some 12), (.bin .lss), [.t 11, .t 10], none, 0, 0⟩] false)
 (.seq (.cond (.t 12) .skip
  (.exit 0))
 (.seq (.block 1 (.seq (.reg [⟨(some 13), (.iad 9 true none), [.t 9, .t 11], none, 0, 0⟩,
    ⟨(some 14), (.load 9 true), [.t 13], none, 0, 0⟩,
    ⟨(some 7), (.alloc [(.str []), (.int .i64 0), (.int .i64 0), (.str []), (.sl true [] true), (.bool false), (.int .i64 0), (.sl true [] true), (.sl true [] true)] true), [], none, 0, 5⟩,
    ⟨none, (.store 9 true), [.t 7, .t 14], none, 0, 0⟩] false)
  (.reg [⟨(some 15), .mov, [.t 5], none, 0, 0⟩,
    ⟨(some 16), .mov, [.t 0], none, 0, 0⟩,
    ⟨(some 17), (.load 9 true), [.t 7], none, 0, 0⟩,
    ⟨(some 18), (.call 63 false false), [.t 16, .t 17], none, 0, 9⟩,
    ⟨(some 19), (.mkSl 1 false false), [.t 18], none, 0, 0⟩,
    ⟨(some 20), (.app 1 false 1), [.t 15, .t 19], none, 0, 13⟩,
    ⟨(some 5), .mov, [.t 20], none, 0, 0⟩] false)))
 (.reg [⟨(some 21), (.bin .add), [.t 11, .c (.int .i64 1)], none, 0, 0⟩,
   ⟨(some 11), .mov, [.t 21], none, 0, 0⟩] false))))
def cf63 : CF := ⟨2, 109, [.inl 4],
 (.seq (.reg [⟨(some 3), .box, [.t 1], none, 0, 1⟩,
   ⟨(some 4), .mov, [.c (.bool false)], none, 0, 0⟩] false)
 (.seq (.reg [⟨(some 5), .mov, [.c (.sl true [] true)], none, 0, 0⟩] false)
 (.seq (.seq (.reg [⟨(some 8), (.fad 8 1 false), [.t 3], none, 0, 0⟩,
   ⟨(some 9), (.load 1 false), [.t 8], none, 0, 0⟩,
   ⟨(some 10), (.len 1), [.t 9], none, 0, 0⟩,
   ⟨(some 11), .mov, [.c (.int .i64 0)], none, 0, 0⟩] false)
 (.block 0 (.loop cf63L0 cf63M0)))
 (.seq (.seq (.reg [⟨(some 22), (.fad 0 1 false), [.t 3], none, 0, 0⟩,
   ⟨(some 23), (.load 1 false), [.t 22], none, 0, 0⟩] false)
 (.block 2 (.seq (.reg [⟨(some 25), (.bin .eql), [.t 23, .c (.str [99, 111, 110, 115, 116])], none, 0, 0⟩,
    ⟨(some 24), .mov, [.t 25], none, 0, 0⟩] false)
  (.cond (.t 24) (.seq (.reg [⟨(some 26), (.fad 1 1 false), [.t 3], none, 0, 0⟩,
     ⟨(some 27), (.load 1 false), [.t 26], none, 0, 0⟩,
     ⟨(some 28), (.bin .eql), [.t 27, .c (.int .i64 0)], none, 0, 0⟩,
     ⟨(some 29), .mov, [.t 28], none, 0, 0⟩,
     ⟨(some 30), (.fad 1 1 false), [.t 3], (some (29, false)), 0, 0⟩,
     ⟨(some 31), (.load 1 false), [.t 30], (some (29, false)), 0, 0⟩,
     ⟨(some 32), (.bin .eql), [.t 31, .c (.int .i64 1)], (some (29, false)), 0, 0⟩,
     ⟨(some 33), .pick, [.t 29, .c (.bool true), .t 32], none, 0, 0⟩,
     ⟨(some 4), .mov, [.t 33], none, 0, 0⟩] false)
   .ret)
   (.seq (.reg [⟨(some 35), (.bin .eql), [.t 23, .c (.str [108, 105, 110, 101, 97, 114])], none, 0, 0⟩,
     ⟨(some 34), .mov, [.t 35], none, 0, 0⟩] false)
   (.cond (.t 34) (.seq (.reg [⟨(some 4), .mov, [.c (.bool false)], none, 0, 0⟩] false)
    .ret)
    (.seq (.reg [⟨(some 37), (.bin .eql), [.t 23, .c (.str [114, 101, 97, 100])], none, 0, 0⟩,
      ⟨(some 36), .mov, [.t 37], none, 0, 0⟩] false)
    (.cond (.t 36) (.seq (.reg [⟨(some 38), (.fad 2 1 false), [.t 3], none, 0, 0⟩,
       ⟨(some 39), (.load 1 false), [.t 38], none, 1, 0⟩,
       ⟨(some 40), (.bin .geq), [.t 39, .c (.int .i64 0)], none, 3, 0⟩,
       ⟨(some 41), .mov, [.t 40], none, 7, 0⟩,
       ⟨(some 42), (.fad 2 1 false), [.t 3], (some (41, true)), 15, 0⟩,
       ⟨(some 43), (.load 1 false), [.t 42], (some (41, true)), 31, 0⟩,
       ⟨(some 44), .mov, [.t 0], (some (41, true)), 15, 0⟩,
       ⟨(some 45), .nilc, [.t 44], (some (41, true)), 79, 0⟩,
       ⟨(some 46), (.fad 0 6 true), [.t 45], (some (41, true)), 207, 0⟩,
       ⟨(some 47), (.fad 3 1 false), [.t 46], (some (41, true)), 463, 0⟩,
       ⟨(some 48), (.load 1 false), [.t 47], (some (41, true)), 975, 0⟩,
       ⟨(some 49), (.len 1), [.t 48], (some (41, true)), 1999, 0⟩,
       ⟨(some 50), (.bin .lss), [.t 43, .t 49], (some (41, true)), 4095, 0⟩,
       ⟨(some 51), .pick, [.t 41, .t 50, .c (.bool false)], none, 8191, 0⟩,
       ⟨(some 52), .mov, [.t 51], none, 16383, 0⟩,
       ⟨(some 53), .mov, [.t 0], (some (52, true)), 32767, 0⟩,
       ⟨(some 54), .nilc, [.t 53], (some (52, true)), 65535, 0⟩,
       ⟨(some 55), (.fad 0 6 true), [.t 54], (some (52, true)), 131071, 0⟩,
       ⟨(some 56), (.fad 3 1 false), [.t 55], (some (52, true)), 262143, 0⟩,
       ⟨(some 57), (.load 1 false), [.t 56], (some (52, true)), 524287, 0⟩,
       ⟨(some 58), (.fad 2 1 false), [.t 3], (some (52, true)), 32767, 0⟩,
       ⟨(some 59), (.load 1 false), [.t 58], (some (52, true)), 1081343, 0⟩,
       ⟨(some 60), (.iad 3 true none), [.t 57, .t 59], (some (52, true)), 4194303, 0⟩,
       ⟨(some 61), (.fad 0 1 false), [.t 60], (some (52, true)), 8388607, 0⟩,
       ⟨(some 62), (.load 1 false), [.t 61], (some (52, true)), 16777215, 0⟩,
       ⟨(some 63), (.bin .eql), [.t 62, .c (.str [98, 111, 111, 108])], (some (52, true)), 33554431, 0⟩,
       ⟨(some 64), .pick, [.t 52, .t 63, .c (.bool false)], none, 67108863, 0⟩,
       ⟨(some 4), .mov, [.t 64], none, 134217727, 0⟩] true)
     .ret)
     (.seq (.reg [⟨(some 66), (.bin .eql), [.t 23, .c (.str [105, 102])], none, 0, 0⟩,
       ⟨(some 65), .mov, [.t 66], none, 0, 0⟩] false)
     (.cond (.t 65) (.seq (.reg [⟨(some 67), .mov, [.t 5], none, 0, 0⟩,
        ⟨(some 68), (.len 1), [.t 67], none, 0, 0⟩,
        ⟨(some 69), (.bin .eql), [.t 68, .c (.int .i64 2)], none, 0, 0⟩,
        ⟨(some 70), .mov, [.t 69], none, 0, 0⟩,
        ⟨(some 71), .mov, [.t 5], (some (70, true)), 0, 0⟩,
        ⟨(some 72), (.iad 1 false none), [.t 71, .c (.int .i64 0)], (some (70, true)), 0, 0⟩,
        ⟨(some 73), (.load 1 false), [.t 72], (some (70, true)), 0, 0⟩,
        ⟨(some 74), .pick, [.t 70, .t 73, .c (.bool false)], none, 0, 0⟩,
        ⟨(some 75), .mov, [.t 74], none, 0, 0⟩,
        ⟨(some 76), .mov, [.t 5], (some (75, true)), 0, 0⟩,
        ⟨(some 77), (.iad 1 false none), [.t 76, .c (.int .i64 1)], (some (75, true)), 0, 0⟩,
        ⟨(some 78), (.load 1 false), [.t 77], (some (75, true)), 0, 0⟩,
        ⟨(some 79), .pick, [.t 75, .t 78, .c (.bool false)], none, 0, 0⟩,
        ⟨(some 4), .mov, [.t 79], none, 0, 0⟩] false)
      .ret)
      (.seq (.reg [⟨(some 81), (.bin .eql), [.t 23, .c (.str [114, 101, 100, 117, 99, 101])], none, 0, 0⟩,
        ⟨(some 80), .mov, [.t 81], none, 0, 0⟩] false)
      (.cond (.t 80) (.seq (.reg [⟨(some 82), .mov, [.t 5], none, 0, 0⟩,
         ⟨(some 83), (.len 1), [.t 82], none, 1, 0⟩,
         ⟨(some 84), (.bin .eql), [.t 83, .c (.int .i64 2)], none, 3, 0⟩,
         ⟨(some 85), .mov, [.t 84], none, 7, 0⟩,
         ⟨(some 86), .mov, [.t 5], (some (85, true)), 15, 0⟩,
         ⟨(some 87), (.iad 1 false none), [.t 86, .c (.int .i64 0)], (some (85, true)), 31, 0⟩,
         ⟨(some 88), (.load 1 false), [.t 87], (some (85, true)), 63, 0⟩,
         ⟨(some 89), .pick, [.t 85, .t 88, .c (.bool false)], none, 127, 0⟩,
         ⟨(some 90), .mov, [.t 89], none, 255, 0⟩,
         ⟨(some 91), (.fad 7 1 false), [.t 3], (some (90, true)), 511, 0⟩,
         ⟨(some 92), (.load 1 false), [.t 91], (some (90, true)), 1023, 0⟩,
         ⟨(some 93), .mov, [.t 5], (some (90, true)), 511, 0⟩,
         ⟨(some 94), (.iad 1 false none), [.t 93, .c (.int .i64 1)], (some (90, true)), 2559, 0⟩,
         ⟨(some 95), (.load 1 false), [.t 94], (some (90, true)), 6655, 0⟩,
         ⟨(some 96), (.mkSl 1 false false), [.c (.bool true), .t 95], (some (90, true)), 14847, 0⟩,
         ⟨(some 97), (.call 64 false false), [.t 92, .t 96], (some (90, true)), 32767, 17⟩,
         ⟨(some 98), .pick, [.t 90, .t 97, .c (.bool false)], none, 65535, 0⟩,
         ⟨(some 4), .mov, [.t 98], none, 131071, 0⟩] true)
       .ret)
       (.seq (.reg [⟨(some 100), (.bin .eql), [.t 23, .c (.str [99, 111, 100, 101])], none, 0, 0⟩,
         ⟨(some 99), .mov, [.t 100], none, 0, 0⟩] false)
       (.cond (.t 99) (.seq (.reg [⟨(some 101), (.fad 7 1 false), [.t 3], none, 0, 0⟩,
          ⟨(some 102), (.load 1 false), [.t 101], none, 0, 0⟩,
          ⟨(some 103), .mov, [.t 5], none, 0, 0⟩,
          ⟨(some 104), (.call 64 false false), [.t 102, .t 103], none, 0, 21⟩,
          ⟨(some 4), .mov, [.t 104], none, 0, 0⟩] false)
        .ret)
        .skip))))))))))))))
 (.seq (.reg [⟨(some 105), (.fad 0 1 false), [.t 3], none, 0, 0⟩,
   ⟨(some 106), (.load 1 false), [.t 105], none, 0, 0⟩,
   ⟨(some 107), .mov, [.t 5], none, 0, 0⟩,
   ⟨(some 108), (.call 102 false false), [.t 106, .t 107], none, 0, 25⟩,
   ⟨(some 4), .mov, [.t 108], none, 0, 0⟩] false)
 .ret)))))⟩
def cf64M0 : List Bool := [false, false, false, false, false, true, false, true, true, false, false, false, false, true, true, true, false, false, false, false, false, false, false, false, false, false, false, false, false, false, false, false, false, false, false, false, false, false, false, true, true, true, false, false, false, false, false, false, false, false, false, false, false, false, false, false, false, false, false, false, false, false, false, false, false, false, false, false, false, false, false, false, false, false, false, false, false, false, false, false, false, false]
def cf64E0 (t5 t7 t8 t13 t14 t15 t39 t40 t41 : AV) : List AV := [.top, .top, .top, .top, .top, t5, .top, t7, t8, .top, .top, .top, .top, t13, t14, t15, .top, .top, .top, .top, .top, .top, .top, .top, .top, .top, .top, .top, .top, .top, .top, .top, .top, .top, .top, .top, .top, .top, .top, t39, t40, t41, .top, .top, .top, .top, .top, .top, .top, .top, .top, .top, .top, .top, .top, .top, .top, .top, .top, .top, .top, .top, .top, .top, .top, .top, .top, .top, .top, .top, .top, .top, .top, .top, .top, .top, .top, .top, .top, .top, .top, .top]
def cf64L0 : C :=
 (.seq (.reg [⟨(some 42), (.bin .lss), [.t 41, .t 40], none, 0, 0⟩] false)
 (.seq (.cond (.t 42) .skip
  (.exit 2))
 (.seq (.block 3 (.seq (.reg [⟨(some 43), (.iad 1 false none), [.t 39, .t 41], none, 0, 0⟩,
    ⟨(some 44), (.load 1 false), [.t 43], none, 0, 0⟩,
    ⟨(some 10), .mov, [.t 44], none, 0, 0⟩] false)
  (.reg [⟨(some 45), .mov, [.t 8], none, 0, 0⟩,
    ⟨(some 46), .mov, [.t 10], none, 0, 0⟩,
    ⟨(some 47), (.bin .geq), [.t 46, .c (.int .i64 0)], none, 0, 0⟩,
    ⟨(some 48), .mov, [.t 47], none, 0, 0⟩,
    ⟨(some 49), .mov, [.t 10], (some (48, true)), 0, 0⟩,
    ⟨(some 50), .mov, [.t 5], (some (48, true)), 0, 0⟩,
    ⟨(some 51), (.len 1), [.t 50], (some (48, true)), 0, 0⟩,
    ⟨(some 52), (.bin .lss), [.t 49, .t 51], (some (48, true)), 0, 0⟩,
    ⟨(some 53), .pick, [.t 48, .t 52, .c (.bool false)], none, 0, 0⟩,
    ⟨(some 54), .mov, [.t 53], none, 0, 0⟩,
    ⟨(some 55), .mov, [.t 5], (some (54, true)), 0, 0⟩,
    ⟨(some 56), .mov, [.t 10], (some (54, true)), 0, 0⟩,
    ⟨(some 57), (.iad 1 false none), [.t 55, .t 56], (some (54, true)), 0, 0⟩,
    ⟨(some 58), (.load 1 false), [.t 57], (some (54, true)), 0, 0⟩,
    ⟨(some 59), .pick, [.t 54, .t 58, .c (.bool false)], none, 0, 0⟩,
    ⟨(some 60), (.mkSl 1 false false), [.t 59], none, 0, 0⟩,
    ⟨(some 61), (.app 1 false 1), [.t 45, .t 60], none, 0, 13⟩,
    ⟨(some 8), .mov, [.t 61], none, 0, 0⟩] false)))
 (.reg [⟨(some 62), (.bin .add), [.t 41, .c (.int .i64 1)], none, 0, 0⟩,
   ⟨(some 41), .mov, [.t 62], none, 0, 0⟩] false))))
def cf64M1 : List Bool := [false, false, false, false, false, true, false, false, false, false, false, false, false, true, true, true, false, false, false, false, false, false, false, false, false, false, false, false, false, false, false, false, false, false, false, false, false, false, false, false, false, false, false, false, false, false, false, false, false, false, false, false, false, false, false, false, false, false, false, false, false, false, false, false, false, false, false, false, false, false, false, false, false, false, false, false, false, false, false, false, false, false]
def cf64E1 (t5 t13 t14 t15 : AV) : List AV := [.top, .top, .top, .top, .top, t5, .top, .top, .top, .top, .top, .top, .top, t13, t14, t15, .top, .top, .top, .top, .top, .top, .top, .top, .top, .top, .top, .top, .top, .top, .top, .top, .top, .top, .top, .top, .top, .top, .top, .top, .top, .top, .top, .top, .top, .top, .top, .top, .top, .top, .top, .top, .top, .top, .top, .top, .top, .top, .top, .top, .top, .top, .top, .top, .top, .top, .top, .top, .top, .top, .top, .top, .top, .top, .top, .top, .top, .top, .top, .top, .top, .top]
def cf64L1 : C :=
 (.seq (.reg [⟨(some 16), (.bin .lss), [.t 15, .t 14], none, 0, 0⟩] false)
 (.seq (.cond (.t 16) .skip
  (.exit 0))
 (.seq (.block 1 (.seq (.reg [⟨(some 17), (.iad 3 true none), [.t 13, .t 15], none, 0, 0⟩,
    ⟨(some 18), (.load 3 true), [.t 17], none, 0, 0⟩,
    ⟨(some 7), (.alloc [(.str []), (.int .i64 0), (.sl true [] true)] true), [], none, 0, 5⟩,
    ⟨none, (.store 3 true), [.t 7, .t 18], none, 0, 0⟩] false)
  (.seq (.seq (.reg [⟨(some 19), (.fad 0 1 false), [.t 7], none, 0, 0⟩,
    ⟨(some 20), (.load 1 false), [.t 19], none, 0, 0⟩,
    ⟨(some 21), (.bin .eql), [.t 20, .c (.str [99, 111, 110, 115, 116])], none, 0, 0⟩,
    ⟨(some 22), .mov, [.t 21], none, 0, 0⟩,
    ⟨(some 23), (.fad 0 1 false), [.t 7], (some (22, false)), 0, 0⟩,
    ⟨(some 24), (.load 1 false), [.t 23], (some (22, false)), 0, 0⟩,
    ⟨(some 25), (.bin .eql), [.t 24, .c (.str [116, 114, 117, 116, 104])], (some (22, false)), 0, 0⟩,
    ⟨(some 26), .pick, [.t 22, .c (.bool true), .t 25], none, 0, 0⟩] false)
  (.cond (.t 26) (.seq (.reg [⟨(some 27), .mov, [.t 5], none, 0, 0⟩,
     ⟨(some 28), (.fad 1 1 false), [.t 7], none, 0, 0⟩,
     ⟨(some 29), (.load 1 false), [.t 28], none, 0, 0⟩,
     ⟨(some 30), (.bin .eql), [.t 29, .c (.int .i64 0)], none, 0, 0⟩,
     ⟨(some 31), .mov, [.t 30], none, 0, 0⟩,
     ⟨(some 32), (.fad 1 1 false), [.t 7], (some (31, false)), 0, 0⟩,
     ⟨(some 33), (.load 1 false), [.t 32], (some (31, false)), 0, 0⟩,
     ⟨(some 34), (.bin .eql), [.t 33, .c (.int .i64 1)], (some (31, false)), 0, 0⟩,
     ⟨(some 35), .pick, [.t 31, .c (.bool true), .t 34], none, 0, 0⟩,
     ⟨(some 36), (.mkSl 1 false false), [.t 35], none, 0, 0⟩,
     ⟨(some 37), (.app 1 false 1), [.t 27, .t 36], none, 0, 9⟩,
     ⟨(some 5), .mov, [.t 37], none, 0, 0⟩] false)
   (.exit 1))
   .skip))
  (.seq (.reg [⟨(some 8), .mov, [.c (.sl true [] true)], none, 0, 0⟩] false)
  (.seq (.seq (.reg [⟨(some 38), (.fad 2 1 false), [.t 7], none, 0, 0⟩,
    ⟨(some 39), (.load 1 false), [.t 38], none, 0, 0⟩,
    ⟨(some 40), (.len 1), [.t 39], none, 0, 0⟩,
    ⟨(some 41), .mov, [.c (.int .i64 0)], none, 0, 0⟩] false)
  (.block 2 (.loop cf64L0 cf64M0)))
  (.reg [⟨(some 63), .mov, [.t 5], none, 0, 0⟩,
    ⟨(some 64), (.fad 0 1 false), [.t 7], none, 0, 0⟩,
    ⟨(some 65), (.load 1 false), [.t 64], none, 0, 0⟩,
    ⟨(some 66), .mov, [.t 8], none, 0, 0⟩,
    ⟨(some 67), (.call 102 false false), [.t 65, .t 66], none, 0, 17⟩,
    ⟨(some 68), (.mkSl 1 false false), [.t 67], none, 0, 0⟩,
    ⟨(some 69), (.app 1 false 1), [.t 63, .t 68], none, 0, 21⟩,
    ⟨(some 5), .mov, [.t 69], none, 0, 0⟩] false))))))
 (.reg [⟨(some 70), (.bin .add), [.t 15, .c (.int .i64 1)], none, 0, 0⟩,
   ⟨(some 15), .mov, [.t 70], none, 0, 0⟩] false))))
def cf64 : CF := ⟨2, 82, [.inl 4],
 (.seq (.reg [⟨(some 4), .mov, [.c (.bool false)], none, 0, 0⟩] false)
 (.seq (.reg [⟨(some 11), .mov, [.t 1], none, 0, 0⟩,
   ⟨(some 12), (.call 103 true false), [.t 11], none, 0, 1⟩,
   ⟨(some 5), .mov, [.t 12], none, 0, 0⟩] false)
 (.seq (.seq (.reg [⟨(some 13), .mov, [.t 0], none, 0, 0⟩,
   ⟨(some 14), (.len 1), [.t 13], none, 0, 0⟩,
   ⟨(some 15), .mov, [.c (.int .i64 0)], none, 0, 0⟩] false)
 (.block 0 (.loop cf64L1 cf64M1)))
 (.seq (.reg [⟨(some 71), .mov, [.t 5], none, 0, 0⟩,
   ⟨(some 72), (.len 1), [.t 71], none, 0, 0⟩,
   ⟨(some 73), (.bin .gtr), [.t 72, .c (.int .i64 0)], none, 0, 0⟩,
   ⟨(some 74), .mov, [.t 73], none, 0, 0⟩,
   ⟨(some 75), .mov, [.t 5], (some (74, true)), 0, 0⟩,
   ⟨(some 76), .mov, [.t 5], (some (74, true)), 0, 0⟩,
   ⟨(some 77), (.len 1), [.t 76], (some (74, true)), 0, 0⟩,
   ⟨(some 78), (.bin .sub), [.t 77, .c (.int .i64 1)], (some (74, true)), 0, 0⟩,
   ⟨(some 79), (.iad 1 false none), [.t 75, .t 78], (some (74, true)), 0, 0⟩,
   ⟨(some 80), (.load 1 false), [.t 79], (some (74, true)), 0, 0⟩,
   ⟨(some 81), .pick, [.t 74, .t 80, .c (.bool false)], none, 0, 0⟩,
   ⟨(some 4), .mov, [.t 81], none, 0, 0⟩] false)
 .ret))))⟩
def cf65 : CF := ⟨2, 17, [.inl 4],
 (.seq (.reg [⟨(some 2), .box, [.t 0], none, 0, 1⟩,
   ⟨(some 3), .box, [.t 1], none, 0, 5⟩,
   ⟨(some 4), .mov, [.c (.bool false)], none, 0, 0⟩] false)
 (.seq (.reg [⟨(some 5), (.fad 0 1 false), [.t 2], none, 0, 0⟩,
   ⟨(some 6), (.load 1 false), [.t 5], none, 0, 0⟩,
   ⟨(some 7), (.fad 0 1 false), [.t 3], none, 0, 0⟩,
   ⟨(some 8), (.load 1 false), [.t 7], none, 0, 0⟩,
   ⟨(some 9), (.bin .eql), [.t 6, .t 8], none, 0, 0⟩,
   ⟨(some 10), .mov, [.t 9], none, 0, 0⟩,
   ⟨(some 11), (.fad 1 2 true), [.t 2], (some (10, true)), 0, 0⟩,
   ⟨(some 12), (.load 2 true), [.t 11], (some (10, true)), 0, 0⟩,
   ⟨(some 13), (.fad 1 2 true), [.t 3], (some (10, true)), 0, 0⟩,
   ⟨(some 14), (.load 2 true), [.t 13], (some (10, true)), 0, 0⟩,
   ⟨(some 15), (.call 104 false false), [.t 12, .t 14], (some (10, true)), 0, 9⟩,
   ⟨(some 16), .pick, [.t 10, .t 15, .c (.bool false)], none, 0, 0⟩,
   ⟨(some 4), .mov, [.t 16], none, 0, 0⟩] false)
 .ret))⟩
def cf66 : CF := ⟨1, 6, [.inl 2],
 (.seq (.reg [⟨(some 1), .box, [.t 0], none, 0, 1⟩,
   ⟨(some 2), .mov, [.c (.bool false)], none, 0, 0⟩] false)
 (.seq (.reg [⟨(some 3), (.load 9 true), [.t 1], none, 0, 0⟩,
   ⟨(some 4), (.build [(.str []), (.int .i64 0), (.int .i64 0), (.str []), (.sl true [] true), (.bool false), (.int .i64 0), (.sl true [] true), (.sl true [] true)] []), [], none, 0, 0⟩,
   ⟨(some 5), (.call 105 false false), [.t 3, .t 4], none, 0, 5⟩,
   ⟨(some 2), .mov, [.t 5], none, 0, 0⟩] false)
 .ret))⟩
def cf67M0 : List Bool := [false, true, true, false, false, false, false, false, false, false, false, false, false, false, false, true, true, true, false, false, false, false, false, false, false, false, false, false, false, false, false, false]
def cf67E0 (t1 t2 t15 t16 t17 : AV) : List AV := [.top, t1, t2, .top, .top, .top, .top, .top, .top, .top, .top, .top, .top, .top, .top, t15, t16, t17, .top, .top, .top, .top, .top, .top, .top, .top, .top, .top, .top, .top, .top, .top]
def cf67L0 : C :=
 (.seq (.reg [⟨(some 18), (.bin .lss), [.t 17, .t 16], none, 0, 0⟩] false)
 (.seq (.cond (.t 18) .skip
  (.exit 0))
 (.seq (.block 1 (.seq (.reg [⟨(some 19), .mov, [.t 17], none, 0, 0⟩,
    ⟨(some 20), (.iad 2 true none), [.t 15, .t 17], none, 0, 0⟩,
    ⟨(some 21), (.load 2 true), [.t 20], none, 0, 0⟩,
    ⟨(some 8), (.alloc [(.int .i64 0), (.sl true [] true)] true), [], none, 0, 1⟩,
    ⟨(some 7), .mov, [.t 19], none, 0, 0⟩,
    ⟨none, (.store 2 true), [.t 8, .t 21], none, 0, 0⟩] false)
  (.seq (.reg [⟨(some 22), .mov, [.t 1], none, 0, 0⟩,
    ⟨(some 23), .mov, [.t 7], none, 0, 0⟩,
    ⟨(some 24), (.iad 2 true none), [.t 22, .t 23], none, 0, 0⟩,
    ⟨(some 25), (.load 2 true), [.t 24], none, 0, 0⟩,
    ⟨(some 9), (.alloc [(.int .i64 0), (.sl true [] true)] true), [], none, 0, 5⟩,
    ⟨none, (.store 2 true), [.t 9, .t 25], none, 0, 0⟩] false)
  (.seq (.reg [⟨(some 26), .mov, [.t 2], none, 0, 0⟩,
    ⟨(some 27), (.load 2 true), [.t 8], none, 0, 0⟩,
    ⟨(some 28), (.load 2 true), [.t 9], none, 0, 0⟩,
    ⟨(some 29), (.callv false false), [.t 26, .t 27, .t 28], none, 0, 9⟩,
    ⟨(some 30), (.un .not), [.t 29], none, 0, 0⟩] false)
  (.cond (.t 30) (.seq (.reg [⟨(some 6), .mov, [.c (.bool false)], none, 0, 0⟩] false)
   .ret)
   .skip)))))
 (.reg [⟨(some 31), (.bin .add), [.t 17, .c (.int .i64 1)], none, 0, 0⟩,
   ⟨(some 17), .mov, [.t 31], none, 0, 0⟩] false))))
def cf67 : CF := ⟨3, 32, [.inl 6],
 (.seq (.reg [⟨(some 6), .mov, [.c (.bool false)], none, 0, 0⟩] false)
 (.seq (.seq (.reg [⟨(some 10), .mov, [.t 0], none, 0, 0⟩,
   ⟨(some 11), (.len 1), [.t 10], none, 0, 0⟩,
   ⟨(some 12), .mov, [.t 1], none, 0, 0⟩,
   ⟨(some 13), (.len 1), [.t 12], none, 0, 0⟩,
   ⟨(some 14), (.bin .neq), [.t 11, .t 13], none, 0, 0⟩] false)
 (.cond (.t 14) (.seq (.reg [⟨(some 6), .mov, [.c (.bool false)], none, 0, 0⟩] false)
  .ret)
  .skip))
 (.seq (.seq (.reg [⟨(some 15), .mov, [.t 0], none, 0, 0⟩,
   ⟨(some 16), (.len 1), [.t 15], none, 0, 0⟩,
   ⟨(some 17), .mov, [.c (.int .i64 0)], none, 0, 0⟩] false)
 (.block 0 (.loop cf67L0 cf67M0)))
 (.seq (.reg [⟨(some 6), .mov, [.c (.bool true)], none, 0, 0⟩] false)
 .ret))))⟩
def cf68 : CF := ⟨2, 17, [.inl 4],
 (.seq (.reg [⟨(some 2), .box, [.t 0], none, 0, 1⟩,
   ⟨(some 3), .box, [.t 1], none, 0, 5⟩,
   ⟨(some 4), .mov, [.c (.bool false)], none, 0, 0⟩] false)
 (.seq (.reg [⟨(some 5), (.fad 0 1 false), [.t 2], none, 0, 0⟩,
   ⟨(some 6), (.load 1 false), [.t 5], none, 0, 0⟩,
   ⟨(some 7), (.fad 0 1 false), [.t 3], none, 0, 0⟩,
   ⟨(some 8), (.load 1 false), [.t 7], none, 0, 0⟩,
   ⟨(some 9), (.bin .eql), [.t 6, .t 8], none, 0, 0⟩,
   ⟨(some 10), .mov, [.t 9], none, 0, 0⟩,
   ⟨(some 11), (.fad 1 1 false), [.t 2], (some (10, true)), 0, 0⟩,
   ⟨(some 12), (.load 1 false), [.t 11], (some (10, true)), 0, 0⟩,
   ⟨(some 13), (.fad 1 1 false), [.t 3], (some (10, true)), 0, 0⟩,
   ⟨(some 14), (.load 1 false), [.t 13], (some (10, true)), 0, 0⟩,
   ⟨(some 15), (.call 106 false false), [.t 12, .t 14], (some (10, true)), 0, 9⟩,
   ⟨(some 16), .pick, [.t 10, .t 15, .c (.bool false)], none, 0, 0⟩,
   ⟨(some 4), .mov, [.t 16], none, 0, 0⟩] false)
 .ret))⟩
def cf69M0 : List Bool := [false, false, false, false, true, true, false, true, false, true, false, false, false, false, false, false, false, true, true, false, false, false, false, false, false, false, false, false, false, false, false, false, false, false, false, false, false, false, false, false, false, false, false]
def cf69E0 (t4 t5 t7 t9 t17 t18 : AV) : List AV := [.top, .top, .top, .top, t4, t5, .top, t7, .top, t9, .top, .top, .top, .top, .top, .top, .top, t17, t18, .top, .top, .top, .top, .top, .top, .top, .top, .top, .top, .top, .top, .top, .top, .top, .top, .top, .top, .top, .top, .top, .top, .top, .top]
def cf69L0 : C :=
 (.seq (.reg [⟨(some 19), (.bin .lss), [.t 18, .t 17], none, 0, 0⟩] false)
 (.seq (.cond (.t 19) .skip
  (.exit 0))
 (.seq (.block 1 (.seq (.reg [⟨(some 20), .mov, [.t 18], none, 0, 0⟩,
    ⟨(some 10), .mov, [.t 20], none, 0, 0⟩] false)
  (.reg [⟨(some 21), .mov, [.t 9], none, 0, 0⟩,
    ⟨(some 22), .mov, [.t 10], none, 0, 0⟩,
    ⟨(some 23), (.call 108 false false), [.t 22], none, 0, 17⟩,
    ⟨(some 24), (.mkSl 1 false false), [.t 23], none, 0, 0⟩,
    ⟨(some 25), (.app 1 false 16), [.t 21, .t 24], none, 0, 21⟩,
    ⟨(some 9), .mov, [.t 25], none, 0, 0⟩] false)))
 (.reg [⟨(some 26), (.bin .add), [.t 18, .c (.int .i64 1)], none, 0, 0⟩,
   ⟨(some 18), .mov, [.t 26], none, 0, 0⟩] false))))
def cf69 : CF := ⟨4, 43, [.inl 8],
 (.seq (.reg [⟨(some 4), .box, [.t 0], none, 0, 1⟩,
   ⟨(some 5), .box, [.t 1], none, 0, 5⟩,
   ⟨(some 7), .box, [.t 3], none, 0, 9⟩,
   ⟨(some 8), .mov, [.c (.bool false)], none, 0, 0⟩] false)
 (.seq (.reg [⟨(some 11), (.load 1 false), [.t 4], none, 0, 0⟩,
   ⟨(some 12), .nilc, [.t 11], none, 0, 0⟩,
   ⟨(some 13), (.fad 0 6 true), [.t 12], none, 0, 0⟩,
   ⟨(some 14), (.fad 0 1 false), [.t 13], none, 0, 0⟩,
   ⟨(some 15), (.load 1 false), [.t 14], none, 0, 0⟩,
   ⟨(some 16), (.call 107 true false), [.t 15], none, 0, 13⟩,
   ⟨(some 9), .mov, [.t 16], none, 0, 0⟩] false)
 (.seq (.seq (.reg [⟨(some 17), .mov, [.t 2], none, 0, 0⟩,
   ⟨(some 18), .mov, [.c (.int .i64 0)], none, 0, 0⟩] false)
 (.block 0 (.loop cf69L0 cf69M0)))
 (.seq (.reg [⟨(some 27), (.load 9 true), [.t 5], none, 0, 0⟩,
   ⟨(some 28), .mov, [.t 9], none, 0, 0⟩,
   ⟨(some 29), (.load 1 false), [.t 4], none, 0, 0⟩,
   ⟨(some 30), .nilc, [.t 29], none, 4, 0⟩,
   ⟨(some 31), (.fad 0 6 true), [.t 30], none, 12, 0⟩,
   ⟨(some 32), (.fad 3 1 false), [.t 31], none, 28, 0⟩,
   ⟨(some 33), (.load 1 false), [.t 32], none, 60, 0⟩,
   ⟨(some 34), (.len 1), [.t 33], none, 124, 0⟩,
   ⟨(some 35), (.call 109 false false), [.t 27, .t 28, .t 34], none, 255, 25⟩,
   ⟨(some 36), .mov, [.t 35], none, 511, 0⟩,
   ⟨(some 37), (.load 9 true), [.t 5], (some (36, true)), 1023, 0⟩,
   ⟨(some 38), (.call 48 false false), [.t 37], (some (36, true)), 2047, 29⟩,
   ⟨(some 39), (.mkf 110), [.t 4, .t 7], (some (36, true)), 1023, 0⟩,
   ⟨(some 40), (.call 45 false false), [.t 38, .t 39], (some (36, true)), 8191, 33⟩,
   ⟨(some 41), (.un .not), [.t 40], (some (36, true)), 16383, 0⟩,
   ⟨(some 42), .pick, [.t 36, .t 41, .c (.bool false)], none, 32767, 0⟩,
   ⟨(some 8), .mov, [.t 42], none, 65535, 0⟩] true)
 .ret))))⟩
def cf70M0 : List Bool := [false, true, false, false, false, false, false, false, false, false, false, false, false, false, false, false, false, false, false, false, false, false, false, false, false, true, true, true, false, false, false, false, false, false, false, false, false, false, false]
def cf70E0 (t1 t25 t26 t27 : AV) : List AV := [.top, t1, .top, .top, .top, .top, .top, .top, .top, .top, .top, .top, .top, .top, .top, .top, .top, .top, .top, .top, .top, .top, .top, .top, .top, t25, t26, t27, .top, .top, .top, .top, .top, .top, .top, .top, .top, .top, .top]
def cf70L0 : C :=
 (.seq (.reg [⟨(some 28), (.bin .lss), [.t 27, .t 26], none, 0, 0⟩] false)
 (.seq (.cond (.t 28) .skip
  (.exit 0))
 (.seq (.block 1 (.seq (.reg [⟨(some 29), .mov, [.t 27], none, 0, 0⟩,
    ⟨(some 30), (.iad 3 true none), [.t 25, .t 27], none, 0, 0⟩,
    ⟨(some 31), (.load 3 true), [.t 30], none, 0, 0⟩,
    ⟨(some 6), (.alloc [(.str []), (.int .i64 0), (.sl true [] true)] true), [], none, 0, 1⟩,
    ⟨(some 5), .mov, [.t 29], none, 0, 0⟩,
    ⟨none, (.store 3 true), [.t 6, .t 31], none, 0, 0⟩] false)
  (.seq (.reg [⟨(some 32), (.load 3 true), [.t 6], none, 0, 0⟩,
    ⟨(some 33), .mov, [.t 1], none, 0, 0⟩,
    ⟨(some 34), .mov, [.t 5], none, 0, 0⟩,
    ⟨(some 35), (.bin .add), [.t 33, .t 34], none, 0, 0⟩,
    ⟨(some 36), (.call 111 false false), [.t 32, .t 35], none, 0, 5⟩,
    ⟨(some 37), (.un .not), [.t 36], none, 0, 0⟩] false)
  (.cond (.t 37) (.seq (.reg [⟨(some 4), .mov, [.c (.bool false)], none, 0, 0⟩] false)
   .ret)
   .skip))))
 (.reg [⟨(some 38), (.bin .add), [.t 27, .c (.int .i64 1)], none, 0, 0⟩,
   ⟨(some 27), .mov, [.t 38], none, 0, 0⟩] false))))
def cf70 : CF := ⟨2, 39, [.inl 4],
 (.seq (.reg [⟨(some 4), .mov, [.c (.bool false)], none, 0, 0⟩] false)
 (.seq (.seq (.reg [⟨(some 7), .mov, [.t 1], none, 0, 0⟩,
   ⟨(some 8), (.bin .lss), [.t 7, .c (.int .i64 0)], none, 0, 0⟩,
   ⟨(some 9), .mov, [.t 8], none, 0, 0⟩,
   ⟨(some 10), .mov, [.t 1], (some (9, false)), 0, 0⟩,
   ⟨(some 11), (.bin .gtr), [.t 10, .c (.int .i64 20)], (some (9, false)), 0, 0⟩,
   ⟨(some 12), .pick, [.t 9, .c (.bool true), .t 11], none, 0, 0⟩,
   ⟨(some 13), .mov, [.t 12], none, 0, 0⟩,
   ⟨(some 14), .mov, [.t 0], (some (13, false)), 0, 0⟩,
   ⟨(some 15), (.len 1), [.t 14], (some (13, false)), 0, 0⟩,
   ⟨(some 16), (.bin .gtr), [.t 15, .c (.int .i64 60)], (some (13, false)), 0, 0⟩,
   ⟨(some 17), .pick, [.t 13, .c (.bool true), .t 16], none, 0, 0⟩,
   ⟨(some 18), .mov, [.t 17], none, 0, 0⟩,
   ⟨(some 19), .mov, [.t 1], (some (18, false)), 0, 0⟩,
   ⟨(some 20), .mov, [.t 0], (some (18, false)), 0, 0⟩,
   ⟨(some 21), (.len 1), [.t 20], (some (18, false)), 0, 0⟩,
   ⟨(some 22), (.bin .add), [.t 19, .t 21], (some (18, false)), 0, 0⟩,
   ⟨(some 23), (.bin .eql), [.t 22, .c (.int .i64 0)], (some (18, false)), 0, 0⟩,
   ⟨(some 24), .pick, [.t 18, .c (.bool true), .t 23], none, 0, 0⟩] false)
 (.cond (.t 24) (.seq (.reg [⟨(some 4), .mov, [.c (.bool false)], none, 0, 0⟩] false)
  .ret)
  .skip))
 (.seq (.seq (.reg [⟨(some 25), .mov, [.t 0], none, 0, 0⟩,
   ⟨(some 26), (.len 1), [.t 25], none, 0, 0⟩,
   ⟨(some 27), .mov, [.c (.int .i64 0)], none, 0, 0⟩] false)
 (.block 0 (.loop cf70L0 cf70M0)))
 (.seq (.reg [⟨(some 4), .mov, [.c (.bool true)], none, 0, 0⟩] false)
 .ret))))⟩
def cf71M0 : List Bool := [true, true, false, false, false, false, false, true, true, false, false, false, false, false, false, false, false, false, false]
def cf71E0 (t0 t1 t7 t8 : AV) : List AV := [t0, t1, .top, .top, .top, .top, .top, t7, t8, .top, .top, .top, .top, .top, .top, .top, .top, .top, .top]
def cf71L0 : C :=
 (.seq (.reg [⟨(some 9), (.bin .lss), [.t 8, .t 7], none, 0, 0⟩] false)
 (.seq (.cond (.t 9) .skip
  (.exit 0))
 (.seq (.block 1 (.seq (.reg [⟨(some 10), .mov, [.t 8], none, 0, 0⟩,
    ⟨(some 5), .mov, [.t 10], none, 0, 0⟩] false)
  (.seq (.reg [⟨(some 11), .mov, [.t 1], none, 0, 0⟩,
    ⟨(some 12), .mov, [.t 0], none, 0, 0⟩,
    ⟨(some 13), .mov, [.t 5], none, 0, 0⟩,
    ⟨(some 14), (.iad 1 false none), [.t 12, .t 13], none, 0, 0⟩,
    ⟨(some 15), (.load 1 false), [.t 14], none, 0, 0⟩,
    ⟨(some 16), (.callv false false), [.t 11, .t 15], none, 0, 1⟩] false)
  (.cond (.t 16) (.seq (.reg [⟨(some 17), .mov, [.t 5], none, 0, 0⟩,
     ⟨(some 4), .mov, [.t 17], none, 0, 0⟩] false)
   .ret)
   .skip))))
 (.reg [⟨(some 18), (.bin .add), [.t 8, .c (.int .i64 1)], none, 0, 0⟩,
   ⟨(some 8), .mov, [.t 18], none, 0, 0⟩] false))))
def cf71 : CF := ⟨2, 19, [.inl 4],
 (.seq (.reg [⟨(some 4), .mov, [.c (.int .i64 0)], none, 0, 0⟩] false)
 (.seq (.seq (.reg [⟨(some 6), .mov, [.t 0], none, 0, 0⟩,
   ⟨(some 7), (.len 1), [.t 6], none, 0, 0⟩,
   ⟨(some 8), .mov, [.c (.int .i64 0)], none, 0, 0⟩] false)
 (.block 0 (.loop cf71L0 cf71M0)))
 (.seq (.reg [⟨(some 4), .mov, [.c (.int .i64 (-1))], none, 0, 0⟩] false)
 .ret)))⟩
def cf72 : CF := ⟨2, 17, [.inl 4, .inl 5],
 (.seq (.reg [⟨(some 4), .mov, [.c (.int .u32 0)], none, 0, 0⟩,
   ⟨(some 5), .mov, [.c (.int .u32 0)], none, 0, 0⟩] false)
 (.seq (.reg [⟨(some 7), .mov, [.t 0], none, 0, 0⟩,
   ⟨(some 8), (.cvi .u64), [.t 7], none, 0, 0⟩,
   ⟨(some 9), .mov, [.t 1], none, 0, 0⟩,
   ⟨(some 10), (.cvi .u64), [.t 9], none, 0, 0⟩,
   ⟨(some 11), (.bin .mul), [.t 8, .t 10], none, 0, 0⟩,
   ⟨(some 6), .mov, [.t 11], none, 0, 0⟩] false)
 (.seq (.reg [⟨(some 12), .mov, [.t 6], none, 0, 0⟩,
   ⟨(some 13), (.bin .shr), [.t 12, .c (.int .u64 32)], none, 0, 0⟩,
   ⟨(some 14), (.cvi .u32), [.t 13], none, 0, 0⟩,
   ⟨(some 15), .mov, [.t 6], none, 0, 0⟩,
   ⟨(some 16), (.cvi .u32), [.t 15], none, 0, 0⟩,
   ⟨(some 4), .mov, [.t 14], none, 0, 0⟩,
   ⟨(some 5), .mov, [.t 16], none, 0, 0⟩] false)
 .ret)))⟩
def cf73 : CF := ⟨2, 51, [.inl 4, .inl 5],
 (.seq (.reg [⟨(some 4), .mov, [.c (.int .u64 0)], none, 0, 0⟩,
   ⟨(some 5), .mov, [.c (.int .u64 0)], none, 0, 0⟩] false)
 (.seq (.reg [⟨(some 14), .mov, [.t 0], none, 0, 0⟩,
   ⟨(some 15), (.bin .and), [.t 14, .c (.int .u64 4294967295)], none, 0, 0⟩,
   ⟨(some 6), .mov, [.t 15], none, 0, 0⟩] false)
 (.seq (.reg [⟨(some 16), .mov, [.t 0], none, 0, 0⟩,
   ⟨(some 17), (.bin .shr), [.t 16, .c (.int .u64 32)], none, 0, 0⟩,
   ⟨(some 7), .mov, [.t 17], none, 0, 0⟩] false)
 (.seq (.reg [⟨(some 18), .mov, [.t 1], none, 0, 0⟩,
   ⟨(some 19), (.bin .and), [.t 18, .c (.int .u64 4294967295)], none, 0, 0⟩,
   ⟨(some 8), .mov, [.t 19], none, 0, 0⟩] false)
 (.seq (.reg [⟨(some 20), .mov, [.t 1], none, 0, 0⟩,
   ⟨(some 21), (.bin .shr), [.t 20, .c (.int .u64 32)], none, 0, 0⟩,
   ⟨(some 9), .mov, [.t 21], none, 0, 0⟩] false)
 (.seq (.reg [⟨(some 22), .mov, [.t 6], none, 0, 0⟩,
   ⟨(some 23), .mov, [.t 8], none, 0, 0⟩,
   ⟨(some 24), (.bin .mul), [.t 22, .t 23], none, 0, 0⟩,
   ⟨(some 10), .mov, [.t 24], none, 0, 0⟩] false)
 (.seq (.reg [⟨(some 25), .mov, [.t 7], none, 0, 0⟩,
   ⟨(some 26), .mov, [.t 8], none, 0, 0⟩,
   ⟨(some 27), (.bin .mul), [.t 25, .t 26], none, 0, 0⟩,
   ⟨(some 28), .mov, [.t 10], none, 0, 0⟩,
   ⟨(some 29), (.bin .shr), [.t 28, .c (.int .u64 32)], none, 0, 0⟩,
   ⟨(some 30), (.bin .add), [.t 27, .t 29], none, 0, 0⟩,
   ⟨(some 11), .mov, [.t 30], none, 0, 0⟩] false)
 (.seq (.reg [⟨(some 31), .mov, [.t 11], none, 0, 0⟩,
   ⟨(some 32), (.bin .and), [.t 31, .c (.int .u64 4294967295)], none, 0, 0⟩,
   ⟨(some 12), .mov, [.t 32], none, 0, 0⟩] false)
 (.seq (.reg [⟨(some 33), .mov, [.t 11], none, 0, 0⟩,
   ⟨(some 34), (.bin .shr), [.t 33, .c (.int .u64 32)], none, 0, 0⟩,
   ⟨(some 13), .mov, [.t 34], none, 0, 0⟩] false)
 (.seq (.reg [⟨(some 35), .mov, [.t 12], none, 0, 0⟩,
   ⟨(some 36), .mov, [.t 6], none, 0, 0⟩,
   ⟨(some 37), .mov, [.t 9], none, 0, 0⟩,
   ⟨(some 38), (.bin .mul), [.t 36, .t 37], none, 0, 0⟩,
   ⟨(some 39), (.bin .add), [.t 35, .t 38], none, 0, 0⟩,
   ⟨(some 12), .mov, [.t 39], none, 0, 0⟩] false)
 (.seq (.reg [⟨(some 40), .mov, [.t 7], none, 0, 0⟩,
   ⟨(some 41), .mov, [.t 9], none, 0, 0⟩,
   ⟨(some 42), (.bin .mul), [.t 40, .t 41], none, 0, 0⟩,
   ⟨(some 43), .mov, [.t 13], none, 0, 0⟩,
   ⟨(some 44), (.bin .add), [.t 42, .t 43], none, 0, 0⟩,
   ⟨(some 45), .mov, [.t 12], none, 0, 0⟩,
   ⟨(some 46), (.bin .shr), [.t 45, .c (.int .u64 32)], none, 0, 0⟩,
   ⟨(some 47), (.bin .add), [.t 44, .t 46], none, 0, 0⟩,
   ⟨(some 4), .mov, [.t 47], none, 0, 0⟩] false)
 (.seq (.reg [⟨(some 48), .mov, [.t 0], none, 0, 0⟩,
   ⟨(some 49), .mov, [.t 1], none, 0, 0⟩,
   ⟨(some 50), (.bin .mul), [.t 48, .t 49], none, 0, 0⟩,
   ⟨(some 5), .mov, [.t 50], none, 0, 0⟩] false)
 .ret))))))))))))⟩
def cf74M0 : List Bool := [false, false, true, false, false, false, false, false, false, false, false, false, false, false, false, true, true, true, false, false, false, false, false, false, false]
def cf74E0 (t2 t15 t16 t17 : AV) : List AV := [.top, .top, t2, .top, .top, .top, .top, .top, .top, .top, .top, .top, .top, .top, .top, t15, t16, t17, .top, .top, .top, .top, .top, .top, .top]
def cf74L0 : C :=
 (.seq (.reg [⟨(some 18), (.bin .lss), [.t 17, .t 16], none, 0, 0⟩] false)
 (.seq (.cond (.t 18) .skip
  (.exit 0))
 (.seq (.block 1 (.seq (.reg [⟨(some 19), (.iad 9 true none), [.t 15, .t 17], none, 0, 0⟩,
    ⟨(some 20), (.load 9 true), [.t 19], none, 0, 0⟩,
    ⟨(some 5), (.alloc [(.str []), (.int .i64 0), (.int .i64 0), (.str []), (.sl true [] true), (.bool false), (.int .i64 0), (.sl true [] true), (.sl true [] true)] true), [], none, 0, 9⟩,
    ⟨none, (.store 9 true), [.t 5, .t 20], none, 0, 0⟩] false)
  (.reg [⟨(some 21), (.load 1 false), [.t 2], none, 0, 0⟩,
    ⟨(some 22), (.load 9 true), [.t 5], none, 0, 0⟩,
    ⟨(some 23), (.callv false false), [.t 21, .t 22], none, 0, 13⟩] false)))
 (.reg [⟨(some 24), (.bin .add), [.t 17, .c (.int .i64 1)], none, 0, 0⟩,
   ⟨(some 17), .mov, [.t 24], none, 0, 0⟩] false))))
def cf74 : CF := ⟨3, 25, [],
 (.seq (.reg [⟨(some 3), .box, [.t 0], none, 0, 1⟩] false)
 (.seq (.seq (.reg [⟨(some 6), (.fad 0 1 false), [.t 3], none, 0, 0⟩,
   ⟨(some 7), (.load 1 false), [.t 6], none, 0, 0⟩,
   ⟨(some 8), (.bin .eql), [.t 7, .c (.str [114, 101, 97, 100])], none, 0, 0⟩] false)
 (.cond (.t 8) (.reg [⟨(some 9), (.load 1 false), [.t 1], none, 0, 0⟩,
    ⟨(some 10), (.fad 2 1 false), [.t 3], none, 0, 0⟩,
    ⟨(some 11), (.load 1 false), [.t 10], none, 0, 0⟩,
    ⟨(some 12), (.mkSl 1 false false), [.t 11], none, 0, 0⟩,
    ⟨(some 13), (.app 1 false 8), [.t 9, .t 12], none, 0, 5⟩,
    ⟨none, (.store 1 false), [.t 1, .t 13], none, 0, 0⟩] false)
  .skip))
 (.seq (.reg [⟨(some 14), (.fad 8 1 false), [.t 3], none, 0, 0⟩,
   ⟨(some 15), (.load 1 false), [.t 14], none, 0, 0⟩,
   ⟨(some 16), (.len 1), [.t 15], none, 0, 0⟩,
   ⟨(some 17), .mov, [.c (.int .i64 0)], none, 0, 0⟩] false)
 (.block 0 (.loop cf74L0 cf74M0)))))⟩
def cf89 : CF := ⟨1, 9, [.inl 2],
 (.seq (.reg [⟨(some 2), .mov, [.c (.bool false)], none, 0, 0⟩] false)
 (.seq (.reg [⟨(some 3), .mov, [.t 0], none, 0, 0⟩,
   ⟨(some 4), (.bin .geq), [.t 3, .c (.int .i64 (-1000000))], none, 0, 0⟩,
   ⟨(some 5), .mov, [.t 4], none, 0, 0⟩,
   ⟨(some 6), .mov, [.t 0], (some (5, true)), 0, 0⟩,
   ⟨(some 7), (.bin .leq), [.t 6, .c (.int .i64 1000000)], (some (5, true)), 0, 0⟩,
   ⟨(some 8), .pick, [.t 5, .t 7, .c (.bool false)], none, 0, 0⟩,
   ⟨(some 2), .mov, [.t 8], none, 0, 0⟩] false)
 .ret))⟩
def cf91 : CF := ⟨2, 8, [.inl 4],
 (.seq (.reg [⟨(some 4), .mov, [.c (.bool false)], none, 0, 0⟩] false)
 (.seq (.reg [⟨(some 5), .mov, [.t 0], none, 0, 0⟩,
   ⟨(some 6), .mov, [.t 1], none, 0, 0⟩,
   ⟨(some 7), (.call 126 false false), [.t 5, .t 6], none, 0, 1⟩,
   ⟨(some 4), .mov, [.t 7], none, 0, 0⟩] false)
 .ret))⟩
def cf94 : CF := ⟨2, 43, [.inl 4],
 (.seq (.reg [⟨(some 4), .mov, [.c (.str [])], none, 0, 0⟩] false)
 (.seq (.seq (.reg [⟨(some 7), .mov, [.t 0], none, 0, 0⟩,
   ⟨(some 8), (.bin .eql), [.t 7, .c (.str [])], none, 0, 0⟩,
   ⟨(some 9), .mov, [.t 8], none, 0, 0⟩,
   ⟨(some 10), .mov, [.t 1], (some (9, false)), 0, 0⟩,
   ⟨(some 11), (.bin .eql), [.t 10, .c (.str [])], (some (9, false)), 0, 0⟩,
   ⟨(some 12), .pick, [.t 9, .c (.bool true), .t 11], none, 0, 0⟩] false)
 (.cond (.t 12) (.seq (.reg [⟨(some 13), .mov, [.t 0], none, 0, 0⟩,
    ⟨(some 4), .mov, [.t 13], none, 0, 0⟩] false)
  .ret)
  .skip))
 (.seq (.seq (.reg [⟨(some 14), .mov, [.t 1], none, 0, 0⟩,
   ⟨(some 15), (.len 0), [.t 14], none, 0, 0⟩,
   ⟨(some 16), (.bin .eql), [.t 15, .c (.int .i64 1)], none, 0, 0⟩,
   ⟨(some 17), .mov, [.t 16], none, 0, 0⟩,
   ⟨(some 18), .mov, [.t 1], (some (17, true)), 0, 0⟩,
   ⟨(some 19), .ixs, [.t 18, .c (.int .i64 0)], (some (17, true)), 0, 0⟩,
   ⟨(some 20), (.bin .lss), [.t 19, .c (.int .u8 128)], (some (17, true)), 0, 0⟩,
   ⟨(some 21), .pick, [.t 17, .t 20, .c (.bool false)], none, 0, 0⟩] false)
 (.cond (.t 21) (.seq (.reg [⟨(some 22), .mov, [.t 0], none, 0, 0⟩,
    ⟨(some 23), .mov, [.t 1], none, 0, 0⟩,
    ⟨(some 24), .ixs, [.t 23, .c (.int .i64 0)], none, 2, 0⟩,
    ⟨(some 25), (.call 131 false false), [.t 22, .t 24], none, 7, 1⟩,
    ⟨(some 26), .mov, [.t 1], none, 0, 0⟩,
    ⟨(some 27), .ixs, [.t 26, .c (.int .i64 0)], none, 16, 0⟩,
    ⟨(some 28), (.call 130 false false), [.t 25, .t 27], none, 63, 5⟩,
    ⟨(some 4), .mov, [.t 28], none, 127, 0⟩] true)
  .ret)
  .skip))
 (.seq (.seq (.reg [⟨(some 30), .mov, [.t 1], none, 0, 0⟩,
   ⟨(some 31), (.call 132 false false), [.t 30], none, 0, 9⟩,
   ⟨(some 29), .mov, [.t 31], none, 0, 0⟩,
   ⟨(some 32), (.ext 0), [.t 29], none, 0, 0⟩,
   ⟨(some 33), (.ext 1), [.t 29], none, 0, 0⟩,
   ⟨(some 5), (.alloc [(.bool false), (.bool false), (.bool false), (.bool false), (.bool false), (.bool false), (.bool false), (.bool false), (.bool false), (.bool false), (.bool false), (.bool false), (.bool false), (.bool false), (.bool false), (.bool false), (.bool false), (.bool false), (.bool false), (.bool false), (.bool false), (.bool false), (.bool false), (.bool false), (.bool false), (.bool false), (.bool false), (.bool false), (.bool false), (.bool false), (.bool false), (.bool false), (.bool false), (.bool false), (.bool false), (.bool false), (.bool false), (.bool false), (.bool false), (.bool false), (.bool false), (.bool false), (.bool false), (.bool false), (.bool false), (.bool false), (.bool false), (.bool false), (.bool false), (.bool false), (.bool false), (.bool false), (.bool false), (.bool false), (.bool false), (.bool false), (.bool false), (.bool false), (.bool false), (.bool false), (.bool false), (.bool false), (.bool false), (.bool false), (.bool false), (.bool false), (.bool false), (.bool false), (.bool false), (.bool false), (.bool false), (.bool false), (.bool false), (.bool false), (.bool false), (.bool false), (.bool false), (.bool false), (.bool false), (.bool false), (.bool false), (.bool false), (.bool false), (.bool false), (.bool false), (.bool false), (.bool false), (.bool false), (.bool false), (.bool false), (.bool false), (.bool false), (.bool false), (.bool false), (.bool false), (.bool false), (.bool false), (.bool false), (.bool false), (.bool false), (.bool false), (.bool false), (.bool false), (.bool false), (.bool false), (.bool false), (.bool false), (.bool false), (.bool false), (.bool false), (.bool false), (.bool false), (.bool false), (.bool false), (.bool false), (.bool false), (.bool false), (.bool false), (.bool false), (.bool false), (.bool false), (.bool false), (.bool false), (.bool false), (.bool false), (.bool false), (.bool false), (.bool false), (.bool false), (.bool false), (.bool false), (.bool false), (.bool false), (.bool false), (.bool false), (.bool false), (.bool false), (.bool false), (.bool false), (.bool false), (.bool false), (.bool false), (.bool false), (.bool false), (.bool false), (.bool false), (.bool false), (.bool false), (.bool false), (.bool false), (.bool false), (.bool false), (.bool false), (.bool false), (.bool false), (.bool false), (.bool false), (.bool false), (.bool false), (.bool false), (.bool false), (.bool false), (.bool false), (.bool false), (.bool false), (.bool false), (.bool false), (.bool false), (.bool false), (.bool false), (.bool false), (.bool false), (.bool false), (.bool false), (.bool false), (.bool false), (.bool false), (.bool false), (.bool false), (.bool false), (.bool false), (.bool false), (.bool false), (.bool false), (.bool false), (.bool false), (.bool false), (.bool false), (.bool false), (.bool false), (.bool false), (.bool false), (.bool false), (.bool false), (.bool false), (.bool false), (.bool false), (.bool false), (.bool false), (.bool false), (.bool false), (.bool false), (.bool false), (.bool false), (.bool false), (.bool false), (.bool false), (.bool false), (.bool false), (.bool false), (.bool false), (.bool false), (.bool false), (.bool false), (.bool false), (.bool false), (.bool false), (.bool false), (.bool false), (.bool false), (.bool false), (.bool false), (.bool false), (.bool false), (.bool false), (.bool false), (.bool false), (.bool false), (.bool false), (.bool false), (.bool false), (.bool false), (.bool false), (.bool false), (.bool false), (.bool false), (.bool false), (.bool false), (.bool false), (.bool false), (.bool false), (.bool false), (.bool false), (.bool false), (.bool false), (.bool false), (.bool false), (.bool false), (.bool false), (.bool false), (.bool false), (.bool false), (.bool false), (.bool false), (.bool false), (.bool false)] true), [], none, 0, 13⟩,
   ⟨none, (.store 256 true), [.t 5, .t 32], none, 0, 0⟩,
   ⟨(some 6), .mov, [.t 33], none, 0, 0⟩] false)
 (.seq (.reg [⟨(some 34), .mov, [.t 6], none, 0, 0⟩] false)
 (.cond (.t 34) (.seq (.reg [⟨(some 35), .mov, [.t 0], none, 0, 0⟩,
    ⟨(some 36), (.call 134 false false), [.t 35, .t 5], none, 0, 17⟩,
    ⟨(some 37), (.call 133 false false), [.t 36, .t 5], none, 0, 21⟩,
    ⟨(some 4), .mov, [.t 37], none, 0, 0⟩] false)
  .ret)
  .skip)))
 (.seq (.reg [⟨(some 38), .mov, [.t 0], none, 0, 0⟩,
   ⟨(some 39), .mov, [.t 1], none, 0, 0⟩,
   ⟨(some 40), (.call 136 false false), [.t 38, .t 39], none, 0, 25⟩,
   ⟨(some 41), .mov, [.t 1], none, 0, 0⟩,
   ⟨(some 42), (.call 135 false false), [.t 40, .t 41], none, 0, 29⟩,
   ⟨(some 4), .mov, [.t 42], none, 0, 0⟩] false)
 .ret)))))⟩
def cf95 : CF := ⟨2, 9, [.inl 4],
 (.seq (.reg [⟨(some 4), .mov, [.c (.bool false)], none, 0, 0⟩] false)
 (.seq (.reg [⟨(some 5), .mov, [.t 0], none, 0, 0⟩,
   ⟨(some 6), .mov, [.t 1], none, 0, 0⟩,
   ⟨(some 7), (.call 137 false false), [.t 5, .t 6], none, 0, 1⟩,
   ⟨(some 8), (.bin .geq), [.t 7, .c (.int .i64 0)], none, 0, 0⟩,
   ⟨(some 4), .mov, [.t 8], none, 0, 0⟩] false)
 .ret))⟩
def cf96M0 : List Bool := [false, false, false, true, false, false, false, true, true, true, false, false, false, false, false, false, false, false, false, false]
def cf96E0 (t3 t7 t8 t9 : AV) : List AV := [.top, .top, .top, t3, .top, .top, .top, t7, t8, t9, .top, .top, .top, .top, .top, .top, .top, .top, .top, .top]
def cf96L0 : C :=
 (.seq (.reg [⟨(some 10), (.bin .lss), [.t 9, .t 8], none, 0, 0⟩] false)
 (.seq (.cond (.t 10) .skip
  (.exit 0))
 (.seq (.block 1 (.seq (.reg [⟨(some 11), (.iad 2 true none), [.t 7, .t 9], none, 0, 0⟩,
    ⟨(some 12), (.load 2 true), [.t 11], none, 0, 0⟩,
    ⟨(some 5), (.alloc [(.str []), (.int .i64 0)] true), [], none, 0, 5⟩,
    ⟨none, (.store 2 true), [.t 5, .t 12], none, 0, 0⟩] false)
  (.reg [⟨(some 13), .mov, [.t 3], none, 0, 0⟩,
    ⟨(some 14), (.fad 0 1 false), [.t 5], none, 0, 0⟩,
    ⟨(some 15), (.load 1 false), [.t 14], none, 0, 0⟩,
    ⟨(some 16), (.mkSl 1 false false), [.t 15], none, 0, 0⟩,
    ⟨(some 17), (.app 1 false 16), [.t 13, .t 16], none, 0, 9⟩,
    ⟨(some 3), .mov, [.t 17], none, 0, 0⟩] false)))
 (.reg [⟨(some 18), (.bin .add), [.t 9, .c (.int .i64 1)], none, 0, 0⟩,
   ⟨(some 9), .mov, [.t 18], none, 0, 0⟩] false))))
def cf96 : CF := ⟨1, 20, [.inl 2],
 (.seq (.reg [⟨(some 1), .box, [.t 0], none, 0, 1⟩,
   ⟨(some 2), .mov, [.c (.sl true [] true)], none, 0, 0⟩] false)
 (.seq (.reg [⟨(some 3), .mov, [.c (.sl true [] true)], none, 0, 0⟩] false)
 (.seq (.seq (.reg [⟨(some 6), (.fad 1 1 false), [.t 1], none, 0, 0⟩,
   ⟨(some 7), (.load 1 false), [.t 6], none, 0, 0⟩,
   ⟨(some 8), (.len 1), [.t 7], none, 0, 0⟩,
   ⟨(some 9), .mov, [.c (.int .i64 0)], none, 0, 0⟩] false)
 (.block 0 (.loop cf96L0 cf96M0)))
 (.seq (.reg [⟨(some 19), .mov, [.t 3], none, 0, 0⟩,
   ⟨(some 2), .mov, [.t 19], none, 0, 0⟩] false)
 .ret))))⟩
def cf97 : CF := ⟨2, 8, [.inl 3],
 (.seq (.reg [⟨(some 3), .mov, [.c (.bool false)], none, 0, 0⟩] false)
 (.seq (.reg [⟨(some 4), (.load 1 false), [.t 1], none, 0, 0⟩,
   ⟨(some 5), .mov, [.t 0], none, 0, 0⟩,
   ⟨(some 6), (.call 98 false false), [.t 4, .t 5], none, 0, 1⟩,
   ⟨(some 7), (.un .not), [.t 6], none, 0, 0⟩,
   ⟨(some 3), .mov, [.t 7], none, 0, 0⟩] false)
 .ret))⟩
def cf98 : CF := ⟨2, 9, [.inl 4],
 (.seq (.reg [⟨(some 4), .mov, [.c (.bool false)], none, 0, 0⟩] false)
 (.seq (.reg [⟨(some 5), .mov, [.t 0], none, 0, 0⟩,
   ⟨(some 6), .mov, [.t 1], none, 0, 0⟩,
   ⟨(some 7), (.call 138 false false), [.t 5, .t 6], none, 0, 1⟩,
   ⟨(some 8), (.bin .geq), [.t 7, .c (.int .i64 0)], none, 0, 0⟩,
   ⟨(some 4), .mov, [.t 8], none, 0, 0⟩] false)
 .ret))⟩
end Go.Tev
end
