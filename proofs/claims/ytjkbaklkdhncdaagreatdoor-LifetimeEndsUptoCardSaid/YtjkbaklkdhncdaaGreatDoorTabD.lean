import Derived.Test.YtjkbaklkdhncdaaGreatDoorEvD
set_option linter.all false
section
set_option maxRecDepth 100000
namespace Go.Tev
def cf99M0 : List Bool := [true, true, false, false, false, false, false, true, true, false, false, false, false, false, false, false, false, false, false]
def cf99E0 (t0 t1 t7 t8 : AV) : List AV := [t0, t1, .top, .top, .top, .top, .top, t7, t8, .top, .top, .top, .top, .top, .top, .top, .top, .top, .top]
def cf99L0 : C :=
 (.seq (.reg [⟨(some 9), (.bin .lss), [.t 8, .t 7], none, 0, 0⟩] false)
 (.seq (.cond (.t 9) .skip
  (.exit 0))
 (.seq (.block 1 (.seq (.reg [⟨(some 10), .mov, [.t 8], none, 0, 0⟩,
    ⟨(some 5), .mov, [.t 10], none, 0, 0⟩] false)
  (.seq (.reg [⟨(some 11), .mov, [.t 1], none, 0, 0⟩,
    ⟨(some 12), .mov, [.t 0], none, 0, 0⟩,
    ⟨(some 13), .mov, [.t 5], none, 0, 0⟩,
    ⟨(some 14), (.iad 3 true none), [.t 12, .t 13], none, 0, 0⟩,
    ⟨(some 15), (.load 3 true), [.t 14], none, 0, 0⟩,
    ⟨(some 16), (.callv false false), [.t 11, .t 15], none, 0, 1⟩] false)
  (.cond (.t 16) (.seq (.reg [⟨(some 17), .mov, [.t 5], none, 0, 0⟩,
     ⟨(some 4), .mov, [.t 17], none, 0, 0⟩] false)
   .ret)
   .skip))))
 (.reg [⟨(some 18), (.bin .add), [.t 8, .c (.int .i64 1)], none, 0, 0⟩,
   ⟨(some 8), .mov, [.t 18], none, 0, 0⟩] false))))
def cf99 : CF := ⟨2, 19, [.inl 4],
 (.seq (.reg [⟨(some 4), .mov, [.c (.int .i64 0)], none, 0, 0⟩] false)
 (.seq (.seq (.reg [⟨(some 6), .mov, [.t 0], none, 0, 0⟩,
   ⟨(some 7), (.len 1), [.t 6], none, 0, 0⟩,
   ⟨(some 8), .mov, [.c (.int .i64 0)], none, 0, 0⟩] false)
 (.block 0 (.loop cf99L0 cf99M0)))
 (.seq (.reg [⟨(some 4), .mov, [.c (.int .i64 (-1))], none, 0, 0⟩] false)
 .ret)))⟩
def cf100 : CF := ⟨1, 21, [.inl 2],
 (.seq (.reg [⟨(some 1), .box, [.t 0], none, 0, 1⟩,
   ⟨(some 2), .mov, [.c (.bool false)], none, 0, 0⟩] false)
 (.seq (.reg [⟨(some 3), (.fad 0 1 false), [.t 1], none, 0, 0⟩,
   ⟨(some 4), (.load 1 false), [.t 3], none, 0, 0⟩,
   ⟨(some 5), (.bin .eql), [.t 4, .c (.str [105, 110, 116])], none, 0, 0⟩,
   ⟨(some 6), .mov, [.t 5], none, 0, 0⟩,
   ⟨(some 7), (.fad 0 1 false), [.t 1], (some (6, false)), 0, 0⟩,
   ⟨(some 8), (.load 1 false), [.t 7], (some (6, false)), 0, 0⟩,
   ⟨(some 9), (.bin .eql), [.t 8, .c (.str [98, 111, 111, 108])], (some (6, false)), 0, 0⟩,
   ⟨(some 10), .pick, [.t 6, .c (.bool true), .t 9], none, 0, 0⟩,
   ⟨(some 11), .mov, [.t 10], none, 0, 0⟩,
   ⟨(some 12), (.fad 0 1 false), [.t 1], (some (11, false)), 0, 0⟩,
   ⟨(some 13), (.load 1 false), [.t 12], (some (11, false)), 0, 0⟩,
   ⟨(some 14), (.call 101 false false), [.t 13], (some (11, false)), 0, 5⟩,
   ⟨(some 15), .pick, [.t 11, .c (.bool true), .t 14], none, 0, 0⟩,
   ⟨(some 16), .mov, [.t 15], none, 0, 0⟩,
   ⟨(some 17), (.fad 1 2 true), [.t 1], (some (16, true)), 0, 0⟩,
   ⟨(some 18), (.load 2 true), [.t 17], (some (16, true)), 0, 0⟩,
   ⟨(some 19), (.call 139 false false), [.t 18], (some (16, true)), 0, 9⟩,
   ⟨(some 20), .pick, [.t 16, .t 19, .c (.bool false)], none, 0, 0⟩,
   ⟨(some 2), .mov, [.t 20], none, 0, 0⟩] false)
 .ret))⟩
def cf101 : CF := ⟨1, 25, [.inl 2],
 (.seq (.reg [⟨(some 2), .mov, [.c (.bool false)], none, 0, 0⟩] false)
 (.seq (.seq (.reg [⟨(some 3), .mov, [.t 0], none, 0, 0⟩,
   ⟨(some 4), (.len 0), [.t 3], none, 0, 0⟩,
   ⟨(some 5), (.bin .lss), [.t 4, .c (.int .i64 1)], none, 0, 0⟩,
   ⟨(some 6), .mov, [.t 5], none, 0, 0⟩,
   ⟨(some 7), .mov, [.t 0], (some (6, false)), 0, 0⟩,
   ⟨(some 8), (.len 0), [.t 7], (some (6, false)), 0, 0⟩,
   ⟨(some 9), (.bin .gtr), [.t 8, .c (.int .i64 30)], (some (6, false)), 0, 0⟩,
   ⟨(some 10), .pick, [.t 6, .c (.bool true), .t 9], none, 0, 0⟩,
   ⟨(some 11), .mov, [.t 10], none, 0, 0⟩,
   ⟨(some 12), .mov, [.t 0], (some (11, false)), 0, 0⟩,
   ⟨(some 13), .ixs, [.t 12, .c (.int .i64 0)], (some (11, false)), 0, 0⟩,
   ⟨(some 14), (.bin .lss), [.t 13, .c (.int .u8 65)], (some (11, false)), 0, 0⟩,
   ⟨(some 15), .pick, [.t 11, .c (.bool true), .t 14], none, 0, 0⟩,
   ⟨(some 16), .mov, [.t 15], none, 0, 0⟩,
   ⟨(some 17), .mov, [.t 0], (some (16, false)), 0, 0⟩,
   ⟨(some 18), .ixs, [.t 17, .c (.int .i64 0)], (some (16, false)), 0, 0⟩,
   ⟨(some 19), (.bin .gtr), [.t 18, .c (.int .u8 90)], (some (16, false)), 0, 0⟩,
   ⟨(some 20), .pick, [.t 16, .c (.bool true), .t 19], none, 0, 0⟩] false)
 (.cond (.t 20) (.seq (.reg [⟨(some 2), .mov, [.c (.bool false)], none, 0, 0⟩] false)
  .ret)
  .skip))
 (.seq (.reg [⟨(some 21), .mov, [.t 0], none, 0, 0⟩,
   ⟨(some 22), (.sls true false), [.t 21, .c (.int .i64 1)], none, 0, 0⟩,
   ⟨(some 23), (.call 94 false false), [.t 22, .c (.str [48, 49, 50, 51, 52, 53, 54, 55, 56, 57])], none, 0, 1⟩,
   ⟨(some 24), (.bin .eql), [.t 23, .c (.str [])], none, 0, 0⟩,
   ⟨(some 2), .mov, [.t 24], none, 0, 0⟩] false)
 .ret)))⟩
def cf102 : CF := ⟨2, 57, [.inl 4],
 (.seq (.reg [⟨(some 4), .mov, [.c (.bool false)], none, 0, 0⟩] false)
 (.seq (.seq (.reg [⟨(some 8), .mov, [.t 0], none, 0, 0⟩] false)
 (.block 0 (.seq (.seq (.reg [⟨(some 10), (.bin .eql), [.t 8, .c (.str [108, 116])], none, 0, 0⟩,
    ⟨(some 9), .mov, [.t 10], none, 0, 0⟩] false)
  (.cond (.t 9) .skip
   (.seq (.reg [⟨(some 11), (.bin .eql), [.t 8, .c (.str [108, 101])], none, 0, 0⟩,
     ⟨(some 9), .mov, [.t 11], none, 0, 0⟩] false)
   (.cond (.t 9) .skip
    (.seq (.reg [⟨(some 12), (.bin .eql), [.t 8, .c (.str [103, 116])], none, 0, 0⟩,
      ⟨(some 9), .mov, [.t 12], none, 0, 0⟩] false)
    (.cond (.t 9) .skip
     (.seq (.reg [⟨(some 13), (.bin .eql), [.t 8, .c (.str [103, 101])], none, 0, 0⟩,
       ⟨(some 9), .mov, [.t 13], none, 0, 0⟩] false)
     (.cond (.t 9) .skip
      (.seq (.reg [⟨(some 14), (.bin .eql), [.t 8, .c (.str [101, 113])], none, 0, 0⟩,
        ⟨(some 9), .mov, [.t 14], none, 0, 0⟩] false)
      (.cond (.t 9) .skip
       (.reg [⟨(some 15), (.bin .eql), [.t 8, .c (.str [110, 101])], none, 0, 0⟩,
         ⟨(some 9), .mov, [.t 15], none, 0, 0⟩] false)))))))))))
  (.cond (.t 9) (.seq (.reg [⟨(some 16), .mov, [.t 1], none, 0, 0⟩,
     ⟨(some 17), (.len 1), [.t 16], none, 0, 0⟩,
     ⟨(some 18), (.bin .eql), [.t 17, .c (.int .i64 2)], none, 0, 0⟩,
     ⟨(some 4), .mov, [.t 18], none, 0, 0⟩] false)
   .ret)
   (.seq (.reg [⟨(some 20), (.bin .eql), [.t 8, .c (.str [115, 101, 108, 101, 99, 116])], none, 0, 0⟩,
     ⟨(some 19), .mov, [.t 20], none, 0, 0⟩] false)
   (.cond (.t 19) (.seq (.reg [⟨(some 21), .mov, [.t 1], none, 0, 0⟩,
      ⟨(some 22), (.len 1), [.t 21], none, 0, 0⟩,
      ⟨(some 23), (.bin .eql), [.t 22, .c (.int .i64 3)], none, 0, 0⟩,
      ⟨(some 24), .mov, [.t 23], none, 0, 0⟩,
      ⟨(some 25), .mov, [.t 1], (some (24, true)), 0, 0⟩,
      ⟨(some 26), (.iad 1 false none), [.t 25, .c (.int .i64 1)], (some (24, true)), 0, 0⟩,
      ⟨(some 27), (.load 1 false), [.t 26], (some (24, true)), 0, 0⟩,
      ⟨(some 28), .pick, [.t 24, .t 27, .c (.bool false)], none, 0, 0⟩,
      ⟨(some 29), .mov, [.t 28], none, 0, 0⟩,
      ⟨(some 30), .mov, [.t 1], (some (29, true)), 0, 0⟩,
      ⟨(some 31), (.iad 1 false none), [.t 30, .c (.int .i64 2)], (some (29, true)), 0, 0⟩,
      ⟨(some 32), (.load 1 false), [.t 31], (some (29, true)), 0, 0⟩,
      ⟨(some 33), .pick, [.t 29, .t 32, .c (.bool false)], none, 0, 0⟩,
      ⟨(some 4), .mov, [.t 33], none, 0, 0⟩] false)
    .ret)
    .skip))))))
 (.seq (.reg [⟨(some 35), .mov, [.t 0], none, 0, 0⟩,
   ⟨(some 36), (.call 140 false false), [.t 35], none, 0, 1⟩,
   ⟨(some 34), .mov, [.t 36], none, 0, 0⟩,
   ⟨(some 37), (.ext 0), [.t 34], none, 0, 0⟩,
   ⟨(some 38), (.ext 1), [.t 34], none, 0, 0⟩,
   ⟨(some 39), (.ext 2), [.t 34], none, 0, 0⟩,
   ⟨(some 5), .mov, [.t 37], none, 0, 0⟩,
   ⟨(some 6), .mov, [.t 38], none, 0, 0⟩,
   ⟨(some 7), .mov, [.t 39], none, 0, 0⟩] false)
 (.seq (.reg [⟨(some 40), .mov, [.t 7], none, 0, 0⟩,
   ⟨(some 41), .mov, [.t 40], none, 0, 0⟩,
   ⟨(some 42), .mov, [.t 6], (some (41, true)), 0, 0⟩,
   ⟨(some 43), (.bin .eql), [.t 42, .c (.str [98, 111, 111, 108])], (some (41, true)), 0, 0⟩,
   ⟨(some 44), .pick, [.t 41, .t 43, .c (.bool false)], none, 0, 0⟩,
   ⟨(some 45), .mov, [.t 44], none, 0, 0⟩,
   ⟨(some 46), .mov, [.t 5], (some (45, true)), 0, 0⟩,
   ⟨(some 47), (.len 1), [.t 46], (some (45, true)), 0, 0⟩,
   ⟨(some 48), .mov, [.t 1], (some (45, true)), 0, 0⟩,
   ⟨(some 49), (.len 1), [.t 48], (some (45, true)), 0, 0⟩,
   ⟨(some 50), (.bin .eql), [.t 47, .t 49], (some (45, true)), 0, 0⟩,
   ⟨(some 51), .pick, [.t 45, .t 50, .c (.bool false)], none, 0, 0⟩,
   ⟨(some 52), .mov, [.t 51], none, 0, 0⟩,
   ⟨(some 53), .mov, [.t 1], (some (52, true)), 0, 0⟩,
   ⟨(some 54), (.call 141 false false), [.t 53, .c (.bool false)], (some (52, true)), 0, 5⟩,
   ⟨(some 55), (.un .not), [.t 54], (some (52, true)), 0, 0⟩,
   ⟨(some 56), .pick, [.t 52, .t 55, .c (.bool false)], none, 0, 0⟩,
   ⟨(some 4), .mov, [.t 56], none, 0, 0⟩] false)
 .ret))))⟩
def cf103 : CF := ⟨1, 8, [.inl 2],
 (.seq (.reg [⟨(some 2), .mov, [.c (.sl true [] true)], none, 0, 0⟩] false)
 (.seq (.seq (.reg [⟨(some 3), .mov, [.t 0], none, 0, 0⟩,
   ⟨(some 4), (.eqn 1 false), [.t 3], none, 0, 0⟩] false)
 (.cond (.t 4) (.seq (.reg [⟨(some 2), .mov, [.c (.sl true [] true)], none, 0, 0⟩] false)
  .ret)
  .skip))
 (.seq (.reg [⟨(some 5), (.mkSl 1 false false), [], none, 0, 0⟩,
   ⟨(some 6), .mov, [.t 0], none, 0, 0⟩,
   ⟨(some 7), (.app 1 false 1), [.t 5, .t 6], none, 0, 1⟩,
   ⟨(some 2), .mov, [.t 7], none, 0, 0⟩] false)
 .ret)))⟩
def cf104 : CF := ⟨2, 17, [.inl 4],
 (.seq (.reg [⟨(some 2), .box, [.t 0], none, 0, 1⟩,
   ⟨(some 3), .box, [.t 1], none, 0, 5⟩,
   ⟨(some 4), .mov, [.c (.bool false)], none, 0, 0⟩] false)
 (.seq (.reg [⟨(some 5), (.fad 0 1 false), [.t 2], none, 0, 0⟩,
   ⟨(some 6), (.load 1 false), [.t 5], none, 0, 0⟩,
   ⟨(some 7), (.fad 0 1 false), [.t 3], none, 0, 0⟩,
   ⟨(some 8), (.load 1 false), [.t 7], none, 0, 0⟩,
   ⟨(some 9), (.bin .eql), [.t 6, .t 8], none, 0, 0⟩,
   ⟨(some 10), .mov, [.t 9], none, 0, 0⟩,
   ⟨(some 11), (.fad 1 1 false), [.t 2], (some (10, true)), 0, 0⟩,
   ⟨(some 12), (.load 1 false), [.t 11], (some (10, true)), 0, 0⟩,
   ⟨(some 13), (.fad 1 1 false), [.t 3], (some (10, true)), 0, 0⟩,
   ⟨(some 14), (.load 1 false), [.t 13], (some (10, true)), 0, 0⟩,
   ⟨(some 15), (.call 67 false false), [.t 12, .t 14, .f 142], (some (10, true)), 0, 9⟩,
   ⟨(some 16), .pick, [.t 10, .t 15, .c (.bool false)], none, 0, 0⟩,
   ⟨(some 4), .mov, [.t 16], none, 0, 0⟩] false)
 .ret))⟩
def cf105 : CF := ⟨2, 66, [.inl 4],
 (.seq (.reg [⟨(some 2), .box, [.t 0], none, 0, 1⟩,
   ⟨(some 3), .box, [.t 1], none, 0, 5⟩,
   ⟨(some 4), .mov, [.c (.bool false)], none, 0, 0⟩] false)
 (.seq (.reg [⟨(some 5), (.fad 0 1 false), [.t 2], none, 0, 0⟩,
   ⟨(some 6), (.load 1 false), [.t 5], none, 0, 0⟩,
   ⟨(some 7), (.fad 0 1 false), [.t 3], none, 0, 0⟩,
   ⟨(some 8), (.load 1 false), [.t 7], none, 0, 0⟩,
   ⟨(some 9), (.bin .eql), [.t 6, .t 8], none, 0, 0⟩,
   ⟨(some 10), .mov, [.t 9], none, 0, 0⟩,
   ⟨(some 11), (.fad 1 1 false), [.t 2], (some (10, true)), 0, 0⟩,
   ⟨(some 12), (.load 1 false), [.t 11], (some (10, true)), 0, 0⟩,
   ⟨(some 13), (.fad 1 1 false), [.t 3], (some (10, true)), 0, 0⟩,
   ⟨(some 14), (.load 1 false), [.t 13], (some (10, true)), 0, 0⟩,
   ⟨(some 15), (.bin .eql), [.t 12, .t 14], (some (10, true)), 0, 0⟩,
   ⟨(some 16), .pick, [.t 10, .t 15, .c (.bool false)], none, 0, 0⟩,
   ⟨(some 17), .mov, [.t 16], none, 0, 0⟩,
   ⟨(some 18), (.fad 2 1 false), [.t 2], (some (17, true)), 0, 0⟩,
   ⟨(some 19), (.load 1 false), [.t 18], (some (17, true)), 0, 0⟩,
   ⟨(some 20), (.fad 2 1 false), [.t 3], (some (17, true)), 0, 0⟩,
   ⟨(some 21), (.load 1 false), [.t 20], (some (17, true)), 0, 0⟩,
   ⟨(some 22), (.bin .eql), [.t 19, .t 21], (some (17, true)), 0, 0⟩,
   ⟨(some 23), .pick, [.t 17, .t 22, .c (.bool false)], none, 0, 0⟩,
   ⟨(some 24), .mov, [.t 23], none, 0, 0⟩,
   ⟨(some 25), (.fad 3 1 false), [.t 2], (some (24, true)), 0, 0⟩,
   ⟨(some 26), (.load 1 false), [.t 25], (some (24, true)), 0, 0⟩,
   ⟨(some 27), (.fad 3 1 false), [.t 3], (some (24, true)), 0, 0⟩,
   ⟨(some 28), (.load 1 false), [.t 27], (some (24, true)), 0, 0⟩,
   ⟨(some 29), (.bin .eql), [.t 26, .t 28], (some (24, true)), 0, 0⟩,
   ⟨(some 30), .pick, [.t 24, .t 29, .c (.bool false)], none, 0, 0⟩,
   ⟨(some 31), .mov, [.t 30], none, 0, 0⟩,
   ⟨(some 32), (.fad 5 1 false), [.t 2], (some (31, true)), 0, 0⟩,
   ⟨(some 33), (.load 1 false), [.t 32], (some (31, true)), 0, 0⟩,
   ⟨(some 34), (.fad 5 1 false), [.t 3], (some (31, true)), 0, 0⟩,
   ⟨(some 35), (.load 1 false), [.t 34], (some (31, true)), 0, 0⟩,
   ⟨(some 36), (.beq false), [.t 33, .t 35], (some (31, true)), 0, 0⟩,
   ⟨(some 37), .pick, [.t 31, .t 36, .c (.bool false)], none, 0, 0⟩,
   ⟨(some 38), .mov, [.t 37], none, 0, 0⟩,
   ⟨(some 39), (.fad 6 1 false), [.t 2], (some (38, true)), 0, 0⟩,
   ⟨(some 40), (.load 1 false), [.t 39], (some (38, true)), 0, 0⟩,
   ⟨(some 41), (.fad 6 1 false), [.t 3], (some (38, true)), 0, 0⟩,
   ⟨(some 42), (.load 1 false), [.t 41], (some (38, true)), 0, 0⟩,
   ⟨(some 43), (.bin .eql), [.t 40, .t 42], (some (38, true)), 0, 0⟩,
   ⟨(some 44), .pick, [.t 38, .t 43, .c (.bool false)], none, 0, 0⟩,
   ⟨(some 45), .mov, [.t 44], none, 0, 0⟩,
   ⟨(some 46), (.fad 4 1 false), [.t 2], (some (45, true)), 0, 0⟩,
   ⟨(some 47), (.load 1 false), [.t 46], (some (45, true)), 0, 0⟩,
   ⟨(some 48), (.fad 4 1 false), [.t 3], (some (45, true)), 0, 0⟩,
   ⟨(some 49), (.load 1 false), [.t 48], (some (45, true)), 0, 0⟩,
   ⟨(some 50), (.call 67 false false), [.t 47, .t 49, .f 143], (some (45, true)), 0, 9⟩,
   ⟨(some 51), .pick, [.t 45, .t 50, .c (.bool false)], none, 0, 0⟩,
   ⟨(some 52), .mov, [.t 51], none, 0, 0⟩,
   ⟨(some 53), (.fad 7 1 false), [.t 2], (some (52, true)), 0, 0⟩,
   ⟨(some 54), (.load 1 false), [.t 53], (some (52, true)), 0, 0⟩,
   ⟨(some 55), (.fad 7 1 false), [.t 3], (some (52, true)), 0, 0⟩,
   ⟨(some 56), (.load 1 false), [.t 55], (some (52, true)), 0, 0⟩,
   ⟨(some 57), (.call 144 false false), [.t 54, .t 56], (some (52, true)), 0, 13⟩,
   ⟨(some 58), .pick, [.t 52, .t 57, .c (.bool false)], none, 0, 0⟩,
   ⟨(some 59), .mov, [.t 58], none, 0, 0⟩,
   ⟨(some 60), (.fad 8 1 false), [.t 2], (some (59, true)), 0, 0⟩,
   ⟨(some 61), (.load 1 false), [.t 60], (some (59, true)), 0, 0⟩,
   ⟨(some 62), (.fad 8 1 false), [.t 3], (some (59, true)), 0, 0⟩,
   ⟨(some 63), (.load 1 false), [.t 62], (some (59, true)), 0, 0⟩,
   ⟨(some 64), (.call 145 false false), [.t 61, .t 63, .f 105], (some (59, true)), 0, 17⟩,
   ⟨(some 65), .pick, [.t 59, .t 64, .c (.bool false)], none, 0, 0⟩,
   ⟨(some 4), .mov, [.t 65], none, 0, 0⟩] false)
 .ret))⟩
def cf106M0 : List Bool := [true, true, false, false, false, false, false, false, false, false, false, false, true, true, false, false, false, false, false, false, false, false, false, false, false, false]
def cf106E0 (t0 t1 t12 t13 : AV) : List AV := [t0, t1, .top, .top, .top, .top, .top, .top, .top, .top, .top, .top, t12, t13, .top, .top, .top, .top, .top, .top, .top, .top, .top, .top, .top, .top]
def cf106L0 : C :=
 (.seq (.reg [⟨(some 14), (.bin .lss), [.t 13, .t 12], none, 0, 0⟩] false)
 (.seq (.cond (.t 14) .skip
  (.exit 0))
 (.seq (.block 1 (.seq (.reg [⟨(some 15), .mov, [.t 13], none, 0, 0⟩,
    ⟨(some 5), .mov, [.t 15], none, 0, 0⟩] false)
  (.seq (.reg [⟨(some 16), .mov, [.t 0], none, 0, 0⟩,
    ⟨(some 17), .mov, [.t 5], none, 0, 0⟩,
    ⟨(some 18), (.iad 2 true none), [.t 16, .t 17], none, 3, 0⟩,
    ⟨(some 19), (.load 2 true), [.t 18], none, 7, 0⟩,
    ⟨(some 20), .mov, [.t 1], none, 0, 0⟩,
    ⟨(some 21), .mov, [.t 5], none, 0, 0⟩,
    ⟨(some 22), (.iad 2 true none), [.t 20, .t 21], none, 48, 0⟩,
    ⟨(some 23), (.load 2 true), [.t 22], none, 112, 0⟩,
    ⟨(some 24), (.eqs true [1, 0]), [.t 19, .t 23], none, 255, 0⟩] true)
  (.cond (.t 24) (.seq (.reg [⟨(some 4), .mov, [.c (.bool false)], none, 0, 0⟩] false)
   .ret)
   .skip))))
 (.reg [⟨(some 25), (.bin .add), [.t 13, .c (.int .i64 1)], none, 0, 0⟩,
   ⟨(some 13), .mov, [.t 25], none, 0, 0⟩] false))))
def cf106 : CF := ⟨2, 26, [.inl 4],
 (.seq (.reg [⟨(some 4), .mov, [.c (.bool false)], none, 0, 0⟩] false)
 (.seq (.seq (.reg [⟨(some 6), .mov, [.t 0], none, 0, 0⟩,
   ⟨(some 7), (.len 1), [.t 6], none, 0, 0⟩,
   ⟨(some 8), .mov, [.t 1], none, 0, 0⟩,
   ⟨(some 9), (.len 1), [.t 8], none, 0, 0⟩,
   ⟨(some 10), (.bin .neq), [.t 7, .t 9], none, 0, 0⟩] false)
 (.cond (.t 10) (.seq (.reg [⟨(some 4), .mov, [.c (.bool false)], none, 0, 0⟩] false)
  .ret)
  .skip))
 (.seq (.seq (.reg [⟨(some 11), .mov, [.t 0], none, 0, 0⟩,
   ⟨(some 12), (.len 1), [.t 11], none, 0, 0⟩,
   ⟨(some 13), .mov, [.c (.int .i64 0)], none, 0, 0⟩] false)
 (.block 0 (.loop cf106L0 cf106M0)))
 (.seq (.reg [⟨(some 4), .mov, [.c (.bool true)], none, 0, 0⟩] false)
 .ret))))⟩
def cf107 : CF := ⟨1, 8, [.inl 2],
 (.seq (.reg [⟨(some 2), .mov, [.c (.sl true [] true)], none, 0, 0⟩] false)
 (.seq (.seq (.reg [⟨(some 3), .mov, [.t 0], none, 0, 0⟩,
   ⟨(some 4), (.eqn 1 false), [.t 3], none, 0, 0⟩] false)
 (.cond (.t 4) (.seq (.reg [⟨(some 2), .mov, [.c (.sl true [] true)], none, 0, 0⟩] false)
  .ret)
  .skip))
 (.seq (.reg [⟨(some 5), (.mkSl 1 false false), [], none, 0, 0⟩,
   ⟨(some 6), .mov, [.t 0], none, 0, 0⟩,
   ⟨(some 7), (.app 1 false 16), [.t 5, .t 6], none, 0, 1⟩,
   ⟨(some 2), .mov, [.t 7], none, 0, 0⟩] false)
 .ret)))⟩
def cf108 : CF := ⟨1, 8, [.inl 2],
 (.seq (.reg [⟨(some 2), .mov, [.c (.str [])], none, 0, 0⟩] false)
 (.seq (.seq (.reg [⟨(some 3), .mov, [.t 0], none, 0, 0⟩,
   ⟨(some 4), (.bin .lss), [.t 3, .c (.int .i64 0)], none, 0, 0⟩] false)
 (.cond (.t 4) (.seq (.reg [⟨(some 2), .mov, [.c (.str [])], none, 0, 0⟩] false)
  .ret)
  .skip))
 (.seq (.reg [⟨(some 5), .mov, [.t 0], none, 0, 0⟩,
   ⟨(some 6), (.call 93 false false), [.t 5], none, 0, 1⟩,
   ⟨(some 7), (.bin .add), [.c (.str [105]), .t 6], none, 0, 0⟩,
   ⟨(some 2), .mov, [.t 7], none, 0, 0⟩] false)
 .ret)))⟩
def cf109 : CF := ⟨3, 16, [.inl 6],
 (.seq (.reg [⟨(some 3), .box, [.t 0], none, 0, 1⟩,
   ⟨(some 6), .mov, [.c (.bool false)], none, 0, 0⟩] false)
 (.seq (.reg [⟨(some 7), (.load 9 true), [.t 3], none, 0, 0⟩,
   ⟨(some 8), (.call 146 false false), [.t 7], none, 0, 5⟩,
   ⟨(some 9), (.bin .leq), [.t 8, .c (.int .i64 4000)], none, 0, 0⟩,
   ⟨(some 10), .mov, [.t 9], none, 0, 0⟩,
   ⟨(some 11), (.load 9 true), [.t 3], (some (10, true)), 0, 0⟩,
   ⟨(some 12), .mov, [.t 1], (some (10, true)), 0, 0⟩,
   ⟨(some 13), .mov, [.t 2], (some (10, true)), 0, 0⟩,
   ⟨(some 14), (.call 147 false false), [.t 11, .t 12, .t 13], (some (10, true)), 0, 9⟩,
   ⟨(some 15), .pick, [.t 10, .t 14, .c (.bool false)], none, 0, 0⟩,
   ⟨(some 6), .mov, [.t 15], none, 0, 0⟩] false)
 .ret))⟩
def cf110 : CF := ⟨3, 18, [.inl 4],
 (.seq (.reg [⟨(some 4), .mov, [.c (.bool false)], none, 0, 0⟩] false)
 (.seq (.reg [⟨(some 5), (.load 1 false), [.t 1], none, 0, 0⟩,
   ⟨(some 6), .nilc, [.t 5], none, 0, 0⟩,
   ⟨(some 7), (.fad 6 1 false), [.t 6], none, 0, 0⟩,
   ⟨(some 8), (.load 1 false), [.t 7], none, 0, 0⟩,
   ⟨(some 9), .mov, [.t 0], none, 0, 0⟩,
   ⟨(some 10), (.iad 1 false none), [.t 8, .t 9], none, 0, 0⟩,
   ⟨(some 11), (.load 1 false), [.t 10], none, 0, 0⟩,
   ⟨(some 12), (.un .not), [.t 11], none, 0, 0⟩,
   ⟨(some 13), .mov, [.t 12], none, 0, 0⟩,
   ⟨(some 14), .mov, [.t 0], (some (13, false)), 0, 0⟩,
   ⟨(some 15), (.load 1 false), [.t 2], (some (13, false)), 0, 0⟩,
   ⟨(some 16), (.bin .eql), [.t 14, .t 15], (some (13, false)), 0, 0⟩,
   ⟨(some 17), .pick, [.t 13, .c (.bool true), .t 16], none, 0, 0⟩,
   ⟨(some 4), .mov, [.t 17], none, 0, 0⟩] false)
 .ret))⟩
def cf111M0 : List Bool := [false, true, true, false, false, true, false, true, false, false, false, false, false, false, false, false, false, false, false, false, false, false, false, false, false, false, false, false, false, false, false, false, false, false, false, false, false, false, false, false, false, false, true, true, true, false, false, false, false, false, false, false, false, false, false, false, false, false, false, false, false, false, false, false, false, false, false, false, false, false, false, false, false]
def cf111E0 (t1 t2 t5 t7 t42 t43 t44 : AV) : List AV := [.top, t1, t2, .top, .top, t5, .top, t7, .top, .top, .top, .top, .top, .top, .top, .top, .top, .top, .top, .top, .top, .top, .top, .top, .top, .top, .top, .top, .top, .top, .top, .top, .top, .top, .top, .top, .top, .top, .top, .top, .top, .top, t42, t43, t44, .top, .top, .top, .top, .top, .top, .top, .top, .top, .top, .top, .top, .top, .top, .top, .top, .top, .top, .top, .top, .top, .top, .top, .top, .top, .top, .top, .top]
def cf111L0 : C :=
 (.seq (.reg [⟨(some 45), (.bin .lss), [.t 44, .t 43], none, 0, 0⟩] false)
 (.seq (.cond (.t 45) .skip
  (.exit 1))
 (.seq (.block 2 (.seq (.reg [⟨(some 46), (.iad 1 false none), [.t 42, .t 44], none, 0, 0⟩,
    ⟨(some 47), (.load 1 false), [.t 46], none, 0, 0⟩,
    ⟨(some 9), .mov, [.t 47], none, 0, 0⟩] false)
  (.reg [⟨(some 48), .mov, [.t 7], none, 0, 0⟩,
    ⟨(some 49), .mov, [.t 48], none, 0, 0⟩,
    ⟨(some 50), .mov, [.t 9], (some (49, true)), 0, 0⟩,
    ⟨(some 51), (.bin .geq), [.t 50, .c (.int .i64 0)], (some (49, true)), 0, 0⟩,
    ⟨(some 52), .pick, [.t 49, .t 51, .c (.bool false)], none, 0, 0⟩,
    ⟨(some 53), .mov, [.t 52], none, 0, 0⟩,
    ⟨(some 54), .mov, [.t 9], (some (53, true)), 0, 0⟩,
    ⟨(some 55), .mov, [.t 1], (some (53, true)), 0, 0⟩,
    ⟨(some 56), (.bin .lss), [.t 54, .t 55], (some (53, true)), 0, 0⟩,
    ⟨(some 57), .pick, [.t 53, .t 56, .c (.bool false)], none, 0, 0⟩,
    ⟨(some 7), .mov, [.t 57], none, 0, 0⟩] false)))
 (.reg [⟨(some 58), (.bin .add), [.t 44, .c (.int .i64 1)], none, 0, 0⟩,
   ⟨(some 44), .mov, [.t 58], none, 0, 0⟩] false))))
def cf111 : CF := ⟨2, 73, [.inl 4],
 (.seq (.reg [⟨(some 2), .box, [.t 0], none, 0, 1⟩,
   ⟨(some 4), .mov, [.c (.bool false)], none, 0, 0⟩] false)
 (.seq (.seq (.reg [⟨(some 10), (.fad 0 1 false), [.t 2], none, 0, 0⟩,
   ⟨(some 11), (.load 1 false), [.t 10], none, 0, 0⟩] false)
 (.block 0 (.seq (.reg [⟨(some 13), (.bin .eql), [.t 11, .c (.str [99, 111, 110, 115, 116])], none, 0, 0⟩,
    ⟨(some 12), .mov, [.t 13], none, 0, 0⟩] false)
  (.cond (.t 12) (.seq (.reg [⟨(some 14), (.fad 2 1 false), [.t 2], none, 0, 0⟩,
     ⟨(some 15), (.load 1 false), [.t 14], none, 0, 0⟩,
     ⟨(some 16), (.len 1), [.t 15], none, 0, 0⟩,
     ⟨(some 17), (.bin .eql), [.t 16, .c (.int .i64 0)], none, 0, 0⟩,
     ⟨(some 18), .mov, [.t 17], none, 0, 0⟩,
     ⟨(some 19), (.fad 1 1 false), [.t 2], (some (18, true)), 0, 0⟩,
     ⟨(some 20), (.load 1 false), [.t 19], (some (18, true)), 0, 0⟩,
     ⟨(some 21), (.call 148 false false), [.c (.str [105, 110, 116]), .t 20], (some (18, true)), 0, 5⟩,
     ⟨(some 22), .pick, [.t 18, .t 21, .c (.bool false)], none, 0, 0⟩,
     ⟨(some 4), .mov, [.t 22], none, 0, 0⟩] false)
   .ret)
   (.seq (.reg [⟨(some 24), (.bin .eql), [.t 11, .c (.str [116, 114, 117, 116, 104])], none, 0, 0⟩,
     ⟨(some 23), .mov, [.t 24], none, 0, 0⟩] false)
   (.cond (.t 23) (.seq (.reg [⟨(some 25), (.fad 2 1 false), [.t 2], none, 0, 0⟩,
      ⟨(some 26), (.load 1 false), [.t 25], none, 0, 0⟩,
      ⟨(some 27), (.len 1), [.t 26], none, 0, 0⟩,
      ⟨(some 28), (.bin .eql), [.t 27, .c (.int .i64 0)], none, 0, 0⟩,
      ⟨(some 29), .mov, [.t 28], none, 0, 0⟩,
      ⟨(some 30), (.fad 1 1 false), [.t 2], (some (29, true)), 0, 0⟩,
      ⟨(some 31), (.load 1 false), [.t 30], (some (29, true)), 0, 0⟩,
      ⟨(some 32), (.call 148 false false), [.c (.str [98, 111, 111, 108]), .t 31], (some (29, true)), 0, 9⟩,
      ⟨(some 33), .pick, [.t 29, .t 32, .c (.bool false)], none, 0, 0⟩,
      ⟨(some 4), .mov, [.t 33], none, 0, 0⟩] false)
    .ret)
    .skip))))))
 (.seq (.reg [⟨(some 35), (.fad 0 1 false), [.t 2], none, 0, 0⟩,
   ⟨(some 36), (.load 1 false), [.t 35], none, 0, 0⟩,
   ⟨(some 37), (.call 140 false false), [.t 36], none, 0, 13⟩,
   ⟨(some 34), .mov, [.t 37], none, 0, 0⟩,
   ⟨(some 38), (.ext 0), [.t 34], none, 0, 0⟩,
   ⟨(some 39), (.ext 1), [.t 34], none, 0, 0⟩,
   ⟨(some 40), (.ext 2), [.t 34], none, 0, 0⟩,
   ⟨(some 5), .mov, [.t 38], none, 0, 0⟩,
   ⟨(some 6), .mov, [.t 39], none, 0, 0⟩,
   ⟨(some 7), .mov, [.t 40], none, 0, 0⟩] false)
 (.seq (.seq (.reg [⟨(some 41), (.fad 2 1 false), [.t 2], none, 0, 0⟩,
   ⟨(some 42), (.load 1 false), [.t 41], none, 0, 0⟩,
   ⟨(some 43), (.len 1), [.t 42], none, 0, 0⟩,
   ⟨(some 44), .mov, [.c (.int .i64 0)], none, 0, 0⟩] false)
 (.block 1 (.loop cf111L0 cf111M0)))
 (.seq (.reg [⟨(some 59), .mov, [.t 7], none, 0, 0⟩,
   ⟨(some 60), .mov, [.t 59], none, 0, 0⟩,
   ⟨(some 61), (.fad 1 1 false), [.t 2], (some (60, true)), 0, 0⟩,
   ⟨(some 62), (.load 1 false), [.t 61], (some (60, true)), 0, 0⟩,
   ⟨(some 63), (.bin .eql), [.t 62, .c (.int .i64 0)], (some (60, true)), 0, 0⟩,
   ⟨(some 64), .pick, [.t 60, .t 63, .c (.bool false)], none, 0, 0⟩,
   ⟨(some 65), .mov, [.t 64], none, 0, 0⟩,
   ⟨(some 66), (.fad 2 1 false), [.t 2], (some (65, true)), 0, 0⟩,
   ⟨(some 67), (.load 1 false), [.t 66], (some (65, true)), 0, 0⟩,
   ⟨(some 68), (.len 1), [.t 67], (some (65, true)), 0, 0⟩,
   ⟨(some 69), .mov, [.t 5], (some (65, true)), 0, 0⟩,
   ⟨(some 70), (.len 1), [.t 69], (some (65, true)), 0, 0⟩,
   ⟨(some 71), (.bin .eql), [.t 68, .t 70], (some (65, true)), 0, 0⟩,
   ⟨(some 72), .pick, [.t 65, .t 71, .c (.bool false)], none, 0, 0⟩,
   ⟨(some 4), .mov, [.t 72], none, 0, 0⟩] false)
 .ret)))))⟩
def cf126 : CF := ⟨2, 18, [.inl 4],
 (.seq (.reg [⟨(some 4), .mov, [.c (.bool false)], none, 0, 0⟩] false)
 (.seq (.reg [⟨(some 5), .mov, [.t 0], none, 0, 0⟩,
   ⟨(some 6), (.len 0), [.t 5], none, 0, 0⟩,
   ⟨(some 7), .mov, [.t 1], none, 0, 0⟩,
   ⟨(some 8), (.len 0), [.t 7], none, 0, 0⟩,
   ⟨(some 9), (.bin .geq), [.t 6, .t 8], none, 0, 0⟩,
   ⟨(some 10), .mov, [.t 9], none, 0, 0⟩,
   ⟨(some 11), .mov, [.t 0], (some (10, true)), 0, 0⟩,
   ⟨(some 12), .mov, [.t 1], (some (10, true)), 0, 0⟩,
   ⟨(some 13), (.len 0), [.t 12], (some (10, true)), 0, 0⟩,
   ⟨(some 14), (.sls false true), [.t 11, .t 13], (some (10, true)), 0, 0⟩,
   ⟨(some 15), .mov, [.t 1], (some (10, true)), 0, 0⟩,
   ⟨(some 16), (.bin .eql), [.t 14, .t 15], (some (10, true)), 0, 0⟩,
   ⟨(some 17), .pick, [.t 10, .t 16, .c (.bool false)], none, 0, 0⟩,
   ⟨(some 4), .mov, [.t 17], none, 0, 0⟩] false)
 .ret))⟩
def cf130M0 : List Bool := [true, true, false, false, false, false, false, false, false, false, false, false, false, false, false, false, false]
def cf130E0 (t0 t1 : AV) : List AV := [t0, t1, .top, .top, .top, .top, .top, .top, .top, .top, .top, .top, .top, .top, .top, .top, .top]
def cf130L0 : C :=
 (.seq (.seq (.reg [⟨(some 5), .mov, [.t 0], none, 0, 0⟩,
   ⟨(some 6), (.len 0), [.t 5], none, 0, 0⟩,
   ⟨(some 7), (.bin .gtr), [.t 6, .c (.int .i64 0)], none, 0, 0⟩,
   ⟨(some 8), .mov, [.t 7], none, 0, 0⟩,
   ⟨(some 9), .mov, [.t 0], (some (8, true)), 0, 0⟩,
   ⟨(some 10), .ixs, [.t 9, .c (.int .i64 0)], (some (8, true)), 0, 0⟩,
   ⟨(some 11), .mov, [.t 1], (some (8, true)), 0, 0⟩,
   ⟨(some 12), (.bin .eql), [.t 10, .t 11], (some (8, true)), 0, 0⟩,
   ⟨(some 13), .pick, [.t 8, .t 12, .c (.bool false)], none, 0, 0⟩] false)
 (.cond (.t 13) .skip
  (.exit 0)))
 (.block 1 (.reg [⟨(some 14), .mov, [.t 0], none, 0, 0⟩,
    ⟨(some 15), (.sls true false), [.t 14, .c (.int .i64 1)], none, 0, 0⟩,
    ⟨(some 0), .mov, [.t 15], none, 0, 0⟩] false)))
def cf130 : CF := ⟨2, 17, [.inl 4],
 (.seq (.reg [⟨(some 4), .mov, [.c (.str [])], none, 0, 0⟩] false)
 (.seq (.block 0 (.loop cf130L0 cf130M0))
 (.seq (.reg [⟨(some 16), .mov, [.t 0], none, 0, 0⟩,
   ⟨(some 4), .mov, [.t 16], none, 0, 0⟩] false)
 .ret)))⟩
def cf131M0 : List Bool := [true, true, false, false, false, false, false, false, false, false, false, false, false, false, false, false, false, false, false, false, false, false, false]
def cf131E0 (t0 t1 : AV) : List AV := [t0, t1, .top, .top, .top, .top, .top, .top, .top, .top, .top, .top, .top, .top, .top, .top, .top, .top, .top, .top, .top, .top, .top]
def cf131L0 : C :=
 (.seq (.seq (.reg [⟨(some 5), .mov, [.t 0], none, 0, 0⟩,
   ⟨(some 6), (.len 0), [.t 5], none, 0, 0⟩,
   ⟨(some 7), (.bin .gtr), [.t 6, .c (.int .i64 0)], none, 0, 0⟩,
   ⟨(some 8), .mov, [.t 7], none, 0, 0⟩,
   ⟨(some 9), .mov, [.t 0], (some (8, true)), 0, 0⟩,
   ⟨(some 10), .mov, [.t 0], (some (8, true)), 0, 0⟩,
   ⟨(some 11), (.len 0), [.t 10], (some (8, true)), 0, 0⟩,
   ⟨(some 12), (.bin .sub), [.t 11, .c (.int .i64 1)], (some (8, true)), 0, 0⟩,
   ⟨(some 13), .ixs, [.t 9, .t 12], (some (8, true)), 0, 0⟩,
   ⟨(some 14), .mov, [.t 1], (some (8, true)), 0, 0⟩,
   ⟨(some 15), (.bin .eql), [.t 13, .t 14], (some (8, true)), 0, 0⟩,
   ⟨(some 16), .pick, [.t 8, .t 15, .c (.bool false)], none, 0, 0⟩] false)
 (.cond (.t 16) .skip
  (.exit 0)))
 (.block 1 (.reg [⟨(some 17), .mov, [.t 0], none, 0, 0⟩,
    ⟨(some 18), .mov, [.t 0], none, 0, 0⟩,
    ⟨(some 19), (.len 0), [.t 18], none, 0, 0⟩,
    ⟨(some 20), (.bin .sub), [.t 19, .c (.int .i64 1)], none, 0, 0⟩,
    ⟨(some 21), (.sls false true), [.t 17, .t 20], none, 0, 0⟩,
    ⟨(some 0), .mov, [.t 21], none, 0, 0⟩] false)))
def cf131 : CF := ⟨2, 23, [.inl 4],
 (.seq (.reg [⟨(some 4), .mov, [.c (.str [])], none, 0, 0⟩] false)
 (.seq (.block 0 (.loop cf131L0 cf131M0))
 (.seq (.reg [⟨(some 22), .mov, [.t 0], none, 0, 0⟩,
   ⟨(some 4), .mov, [.t 22], none, 0, 0⟩] false)
 .ret)))⟩
def cf132M0 : List Bool := [true, false, true, false, true, false, false, false, false, false, false, false, false, false, false, false, false, false, false, false, false]
def cf132E0 (t0 t2 t4 : AV) : List AV := [t0, .top, t2, .top, t4, .top, .top, .top, .top, .top, .top, .top, .top, .top, .top, .top, .top, .top, .top, .top, .top]
def cf132L0 : C :=
 (.seq (.seq (.reg [⟨(some 6), .mov, [.t 4], none, 0, 0⟩,
   ⟨(some 7), .mov, [.t 0], none, 0, 0⟩,
   ⟨(some 8), (.len 0), [.t 7], none, 0, 0⟩,
   ⟨(some 9), (.bin .lss), [.t 6, .t 8], none, 0, 0⟩] false)
 (.cond (.t 9) .skip
  (.exit 0)))
 (.seq (.block 1 (.seq (.reg [⟨(some 12), .mov, [.t 0], none, 0, 0⟩,
    ⟨(some 13), .mov, [.t 4], none, 0, 0⟩,
    ⟨(some 14), .ixs, [.t 12, .t 13], none, 0, 0⟩,
    ⟨(some 5), .mov, [.t 14], none, 0, 0⟩] false)
  (.seq (.seq (.reg [⟨(some 15), .mov, [.t 5], none, 0, 0⟩,
    ⟨(some 16), (.bin .geq), [.t 15, .c (.int .u8 128)], none, 0, 0⟩] false)
  (.cond (.t 16) (.seq (.reg [⟨(some 17), (.load 256 true), [.t 2], none, 0, 0⟩,
     ⟨none, (.store 256 true), [.t 2, .t 17], none, 0, 0⟩,
     ⟨(some 3), .mov, [.c (.bool false)], none, 0, 0⟩] false)
   .ret)
   .skip))
  (.reg [⟨(some 18), .mov, [.t 5], none, 0, 0⟩,
    ⟨(some 19), (.iad 1 false (some 256)), [.t 2, .t 18], none, 0, 0⟩,
    ⟨none, (.store 1 false), [.t 19, .c (.bool true)], none, 0, 0⟩] false))))
 (.reg [⟨(some 10), .mov, [.t 4], none, 0, 0⟩,
   ⟨(some 11), (.bin .add), [.t 10, .c (.int .i64 1)], none, 0, 0⟩,
   ⟨(some 4), .mov, [.t 11], none, 0, 0⟩] false)))
def cf132 : CF := ⟨1, 21, [.inr (2, 256, true), .inl 3],
 (.seq (.reg [⟨(some 2), (.alloc [(.bool false), (.bool false), (.bool false), (.bool false), (.bool false), (.bool false), (.bool false), (.bool false), (.bool false), (.bool false), (.bool false), (.bool false), (.bool false), (.bool false), (.bool false), (.bool false), (.bool false), (.bool false), (.bool false), (.bool false), (.bool false), (.bool false), (.bool false), (.bool false), (.bool false), (.bool false), (.bool false), (.bool false), (.bool false), (.bool false), (.bool false), (.bool false), (.bool false), (.bool false), (.bool false), (.bool false), (.bool false), (.bool false), (.bool false), (.bool false), (.bool false), (.bool false), (.bool false), (.bool false), (.bool false), (.bool false), (.bool false), (.bool false), (.bool false), (.bool false), (.bool false), (.bool false), (.bool false), (.bool false), (.bool false), (.bool false), (.bool false), (.bool false), (.bool false), (.bool false), (.bool false), (.bool false), (.bool false), (.bool false), (.bool false), (.bool false), (.bool false), (.bool false), (.bool false), (.bool false), (.bool false), (.bool false), (.bool false), (.bool false), (.bool false), (.bool false), (.bool false), (.bool false), (.bool false), (.bool false), (.bool false), (.bool false), (.bool false), (.bool false), (.bool false), (.bool false), (.bool false), (.bool false), (.bool false), (.bool false), (.bool false), (.bool false), (.bool false), (.bool false), (.bool false), (.bool false), (.bool false), (.bool false), (.bool false), (.bool false), (.bool false), (.bool false), (.bool false), (.bool false), (.bool false), (.bool false), (.bool false), (.bool false), (.bool false), (.bool false), (.bool false), (.bool false), (.bool false), (.bool false), (.bool false), (.bool false), (.bool false), (.bool false), (.bool false), (.bool false), (.bool false), (.bool false), (.bool false), (.bool false), (.bool false), (.bool false), (.bool false), (.bool false), (.bool false), (.bool false), (.bool false), (.bool false), (.bool false), (.bool false), (.bool false), (.bool false), (.bool false), (.bool false), (.bool false), (.bool false), (.bool false), (.bool false), (.bool false), (.bool false), (.bool false), (.bool false), (.bool false), (.bool false), (.bool false), (.bool false), (.bool false), (.bool false), (.bool false), (.bool false), (.bool false), (.bool false), (.bool false), (.bool false), (.bool false), (.bool false), (.bool false), (.bool false), (.bool false), (.bool false), (.bool false), (.bool false), (.bool false), (.bool false), (.bool false), (.bool false), (.bool false), (.bool false), (.bool false), (.bool false), (.bool false), (.bool false), (.bool false), (.bool false), (.bool false), (.bool false), (.bool false), (.bool false), (.bool false), (.bool false), (.bool false), (.bool false), (.bool false), (.bool false), (.bool false), (.bool false), (.bool false), (.bool false), (.bool false), (.bool false), (.bool false), (.bool false), (.bool false), (.bool false), (.bool false), (.bool false), (.bool false), (.bool false), (.bool false), (.bool false), (.bool false), (.bool false), (.bool false), (.bool false), (.bool false), (.bool false), (.bool false), (.bool false), (.bool false), (.bool false), (.bool false), (.bool false), (.bool false), (.bool false), (.bool false), (.bool false), (.bool false), (.bool false), (.bool false), (.bool false), (.bool false), (.bool false), (.bool false), (.bool false), (.bool false), (.bool false), (.bool false), (.bool false), (.bool false), (.bool false), (.bool false), (.bool false), (.bool false), (.bool false), (.bool false), (.bool false), (.bool false), (.bool false), (.bool false), (.bool false), (.bool false), (.bool false), (.bool false), (.bool false), (.bool false), (.bool false), (.bool false), (.bool false), (.bool false), (.bool false), (.bool false), (.bool false)] true), [], none, 0, 1⟩,
   ⟨(some 3), .mov, [.c (.bool false)], none, 0, 0⟩] false)
 (.seq (.seq (.reg [⟨(some 4), .mov, [.c (.int .i64 0)], none, 0, 0⟩] false)
 (.block 0 (.loop cf132L0 cf132M0)))
 (.seq (.reg [⟨(some 20), (.load 256 true), [.t 2], none, 0, 0⟩,
   ⟨none, (.store 256 true), [.t 2, .t 20], none, 0, 0⟩,
   ⟨(some 3), .mov, [.c (.bool true)], none, 0, 0⟩] false)
 .ret)))⟩
def cf133M0 : List Bool := [true, true, false, false, false, false, false, false, false, false, false, false, false, false, false, false]
def cf133E0 (t0 t1 : AV) : List AV := [t0, t1, .top, .top, .top, .top, .top, .top, .top, .top, .top, .top, .top, .top, .top, .top]
def cf133L0 : C :=
 (.seq (.seq (.reg [⟨(some 5), .mov, [.t 0], none, 0, 0⟩,
   ⟨(some 6), (.len 0), [.t 5], none, 0, 0⟩,
   ⟨(some 7), (.bin .gtr), [.t 6, .c (.int .i64 0)], none, 0, 0⟩] false)
 (.cond (.t 7) .skip
  (.exit 0)))
 (.block 1 (.seq (.seq (.reg [⟨(some 8), .mov, [.t 1], none, 0, 0⟩,
    ⟨(some 9), .mov, [.t 0], none, 0, 0⟩,
    ⟨(some 10), .ixs, [.t 9, .c (.int .i64 0)], none, 0, 0⟩,
    ⟨(some 11), (.call 171 false false), [.t 8, .t 10], none, 0, 1⟩,
    ⟨(some 12), (.un .not), [.t 11], none, 0, 0⟩] false)
  (.cond (.t 12) (.exit 0)
   .skip))
  (.reg [⟨(some 13), .mov, [.t 0], none, 0, 0⟩,
    ⟨(some 14), (.sls true false), [.t 13, .c (.int .i64 1)], none, 0, 0⟩,
    ⟨(some 0), .mov, [.t 14], none, 0, 0⟩] false))))
def cf133 : CF := ⟨2, 16, [.inl 4],
 (.seq (.reg [⟨(some 4), .mov, [.c (.str [])], none, 0, 0⟩] false)
 (.seq (.block 0 (.loop cf133L0 cf133M0))
 (.seq (.reg [⟨(some 15), .mov, [.t 0], none, 0, 0⟩,
   ⟨(some 4), .mov, [.t 15], none, 0, 0⟩] false)
 .ret)))⟩
def cf134M0 : List Bool := [true, true, false, false, false, false, false, false, false, false, false, false, false, false, false, false, false, false, false, false, false, false]
def cf134E0 (t0 t1 : AV) : List AV := [t0, t1, .top, .top, .top, .top, .top, .top, .top, .top, .top, .top, .top, .top, .top, .top, .top, .top, .top, .top, .top, .top]
def cf134L0 : C :=
 (.seq (.seq (.reg [⟨(some 5), .mov, [.t 0], none, 0, 0⟩,
   ⟨(some 6), (.len 0), [.t 5], none, 0, 0⟩,
   ⟨(some 7), (.bin .gtr), [.t 6, .c (.int .i64 0)], none, 0, 0⟩] false)
 (.cond (.t 7) .skip
  (.exit 0)))
 (.block 1 (.seq (.seq (.reg [⟨(some 8), .mov, [.t 1], none, 0, 0⟩,
    ⟨(some 9), .mov, [.t 0], none, 0, 0⟩,
    ⟨(some 10), .mov, [.t 0], none, 0, 0⟩,
    ⟨(some 11), (.len 0), [.t 10], none, 0, 0⟩,
    ⟨(some 12), (.bin .sub), [.t 11, .c (.int .i64 1)], none, 0, 0⟩,
    ⟨(some 13), .ixs, [.t 9, .t 12], none, 0, 0⟩,
    ⟨(some 14), (.call 171 false false), [.t 8, .t 13], none, 0, 1⟩,
    ⟨(some 15), (.un .not), [.t 14], none, 0, 0⟩] false)
  (.cond (.t 15) (.exit 0)
   .skip))
  (.reg [⟨(some 16), .mov, [.t 0], none, 0, 0⟩,
    ⟨(some 17), .mov, [.t 0], none, 0, 0⟩,
    ⟨(some 18), (.len 0), [.t 17], none, 0, 0⟩,
    ⟨(some 19), (.bin .sub), [.t 18, .c (.int .i64 1)], none, 0, 0⟩,
    ⟨(some 20), (.sls false true), [.t 16, .t 19], none, 0, 0⟩,
    ⟨(some 0), .mov, [.t 20], none, 0, 0⟩] false))))
def cf134 : CF := ⟨2, 22, [.inl 4],
 (.seq (.reg [⟨(some 4), .mov, [.c (.str [])], none, 0, 0⟩] false)
 (.seq (.block 0 (.loop cf134L0 cf134M0))
 (.seq (.reg [⟨(some 21), .mov, [.t 0], none, 0, 0⟩,
   ⟨(some 4), .mov, [.t 21], none, 0, 0⟩] false)
 .ret)))⟩
def cf135M0 : List Bool := [true, true, false, false, false, false, false, false, false, false, false, false, false, false, false, false, false, false, false, false, false, false, false]
def cf135E0 (t0 t1 : AV) : List AV := [t0, t1, .top, .top, .top, .top, .top, .top, .top, .top, .top, .top, .top, .top, .top, .top, .top, .top, .top, .top, .top, .top, .top]
def cf135L0 : C :=
 (.seq (.seq (.reg [⟨(some 7), .mov, [.t 0], none, 0, 0⟩,
   ⟨(some 8), (.len 0), [.t 7], none, 0, 0⟩,
   ⟨(some 9), (.bin .gtr), [.t 8, .c (.int .i64 0)], none, 0, 0⟩] false)
 (.cond (.t 9) .skip
  (.exit 0)))
 (.block 1 (.seq (.reg [⟨(some 11), .mov, [.t 0], none, 0, 0⟩,
    ⟨(some 12), (.call 172 false false), [.t 11], none, 0, 1⟩,
    ⟨(some 10), .mov, [.t 12], none, 0, 0⟩,
    ⟨(some 13), (.ext 0), [.t 10], none, 0, 0⟩,
    ⟨(some 14), (.ext 1), [.t 10], none, 0, 0⟩,
    ⟨(some 5), .mov, [.t 13], none, 0, 0⟩,
    ⟨(some 6), .mov, [.t 14], none, 0, 0⟩] false)
  (.seq (.seq (.reg [⟨(some 15), .mov, [.t 1], none, 0, 0⟩,
    ⟨(some 16), .mov, [.t 5], none, 0, 0⟩,
    ⟨(some 17), (.call 173 false false), [.t 15, .t 16], none, 0, 5⟩,
    ⟨(some 18), (.un .not), [.t 17], none, 0, 0⟩] false)
  (.cond (.t 18) (.exit 0)
   .skip))
  (.reg [⟨(some 19), .mov, [.t 0], none, 0, 0⟩,
    ⟨(some 20), .mov, [.t 6], none, 0, 0⟩,
    ⟨(some 21), (.sls true false), [.t 19, .t 20], none, 0, 0⟩,
    ⟨(some 0), .mov, [.t 21], none, 0, 0⟩] false)))))
def cf135 : CF := ⟨2, 23, [.inl 4],
 (.seq (.reg [⟨(some 4), .mov, [.c (.str [])], none, 0, 0⟩] false)
 (.seq (.block 0 (.loop cf135L0 cf135M0))
 (.seq (.reg [⟨(some 22), .mov, [.t 0], none, 0, 0⟩,
   ⟨(some 4), .mov, [.t 22], none, 0, 0⟩] false)
 .ret)))⟩
def cf136M0 : List Bool := [true, true, false, false, false, false, false, false, false, false, false, false, false, false, false, false, false, false, false, false, false, false, false, false, false, false, false, false, false, false, false, false, false, false]
def cf136E0 (t0 t1 : AV) : List AV := [t0, t1, .top, .top, .top, .top, .top, .top, .top, .top, .top, .top, .top, .top, .top, .top, .top, .top, .top, .top, .top, .top, .top, .top, .top, .top, .top, .top, .top, .top, .top, .top, .top, .top]
def cf136L0 : C :=
 (.seq (.seq (.reg [⟨(some 7), .mov, [.t 0], none, 0, 0⟩,
   ⟨(some 8), (.len 0), [.t 7], none, 0, 0⟩,
   ⟨(some 9), (.bin .gtr), [.t 8, .c (.int .i64 0)], none, 0, 0⟩] false)
 (.cond (.t 9) .skip
  (.exit 0)))
 (.block 1 (.seq (.reg [⟨(some 10), .mov, [.t 0], none, 0, 0⟩,
    ⟨(some 11), .mov, [.t 0], none, 0, 0⟩,
    ⟨(some 12), (.len 0), [.t 11], none, 0, 0⟩,
    ⟨(some 13), (.bin .sub), [.t 12, .c (.int .i64 1)], none, 0, 0⟩,
    ⟨(some 14), .ixs, [.t 10, .t 13], none, 0, 0⟩,
    ⟨(some 15), (.cvi .i32), [.t 14], none, 0, 0⟩,
    ⟨(some 5), .mov, [.t 15], none, 0, 0⟩,
    ⟨(some 6), .mov, [.c (.int .i64 1)], none, 0, 0⟩] false)
  (.seq (.seq (.reg [⟨(some 16), .mov, [.t 5], none, 0, 0⟩,
    ⟨(some 17), (.bin .geq), [.t 16, .c (.int .i32 128)], none, 0, 0⟩] false)
  (.cond (.t 17) (.reg [⟨(some 19), .mov, [.t 0], none, 0, 0⟩,
     ⟨(some 20), (.call 174 false false), [.t 19], none, 0, 1⟩,
     ⟨(some 18), .mov, [.t 20], none, 0, 0⟩,
     ⟨(some 21), (.ext 0), [.t 18], none, 0, 0⟩,
     ⟨(some 22), (.ext 1), [.t 18], none, 0, 0⟩,
     ⟨(some 5), .mov, [.t 21], none, 0, 0⟩,
     ⟨(some 6), .mov, [.t 22], none, 0, 0⟩] false)
   .skip))
  (.seq (.seq (.reg [⟨(some 23), .mov, [.t 1], none, 0, 0⟩,
    ⟨(some 24), .mov, [.t 5], none, 0, 0⟩,
    ⟨(some 25), (.call 173 false false), [.t 23, .t 24], none, 0, 5⟩,
    ⟨(some 26), (.un .not), [.t 25], none, 0, 0⟩] false)
  (.cond (.t 26) (.exit 0)
   .skip))
  (.reg [⟨(some 27), .mov, [.t 0], none, 0, 0⟩,
    ⟨(some 28), .mov, [.t 0], none, 0, 0⟩,
    ⟨(some 29), (.len 0), [.t 28], none, 0, 0⟩,
    ⟨(some 30), .mov, [.t 6], none, 0, 0⟩,
    ⟨(some 31), (.bin .sub), [.t 29, .t 30], none, 0, 0⟩,
    ⟨(some 32), (.sls false true), [.t 27, .t 31], none, 0, 0⟩,
    ⟨(some 0), .mov, [.t 32], none, 0, 0⟩] false))))))
def cf136 : CF := ⟨2, 34, [.inl 4],
 (.seq (.reg [⟨(some 4), .mov, [.c (.str [])], none, 0, 0⟩] false)
 (.seq (.block 0 (.loop cf136L0 cf136M0))
 (.seq (.reg [⟨(some 33), .mov, [.t 0], none, 0, 0⟩,
   ⟨(some 4), .mov, [.t 33], none, 0, 0⟩] false)
 .ret)))⟩
def cf137M0 : List Bool := [true, true, false, false, false, false, false, true, true, false, false, false, false, false, false, false, false, false, false]
def cf137E0 (t0 t1 t7 t8 : AV) : List AV := [t0, t1, .top, .top, .top, .top, .top, t7, t8, .top, .top, .top, .top, .top, .top, .top, .top, .top, .top]
def cf137L0 : C :=
 (.seq (.reg [⟨(some 9), (.bin .lss), [.t 8, .t 7], none, 0, 0⟩] false)
 (.seq (.cond (.t 9) .skip
  (.exit 0))
 (.seq (.block 1 (.seq (.reg [⟨(some 10), .mov, [.t 8], none, 0, 0⟩,
    ⟨(some 5), .mov, [.t 10], none, 0, 0⟩] false)
  (.seq (.reg [⟨(some 11), .mov, [.t 1], none, 0, 0⟩,
    ⟨(some 12), .mov, [.t 0], none, 0, 0⟩,
    ⟨(some 13), .mov, [.t 5], none, 0, 0⟩,
    ⟨(some 14), (.iad 1 false none), [.t 12, .t 13], none, 0, 0⟩,
    ⟨(some 15), (.load 1 false), [.t 14], none, 0, 0⟩,
    ⟨(some 16), (.callv false false), [.t 11, .t 15], none, 0, 1⟩] false)
  (.cond (.t 16) (.seq (.reg [⟨(some 17), .mov, [.t 5], none, 0, 0⟩,
     ⟨(some 4), .mov, [.t 17], none, 0, 0⟩] false)
   .ret)
   .skip))))
 (.reg [⟨(some 18), (.bin .add), [.t 8, .c (.int .i64 1)], none, 0, 0⟩,
   ⟨(some 8), .mov, [.t 18], none, 0, 0⟩] false))))
def cf137 : CF := ⟨2, 19, [.inl 4],
 (.seq (.reg [⟨(some 4), .mov, [.c (.int .i64 0)], none, 0, 0⟩] false)
 (.seq (.seq (.reg [⟨(some 6), .mov, [.t 0], none, 0, 0⟩,
   ⟨(some 7), (.len 1), [.t 6], none, 0, 0⟩,
   ⟨(some 8), .mov, [.c (.int .i64 0)], none, 0, 0⟩] false)
 (.block 0 (.loop cf137L0 cf137M0)))
 (.seq (.reg [⟨(some 4), .mov, [.c (.int .i64 (-1))], none, 0, 0⟩] false)
 .ret)))⟩
def cf138M0 : List Bool := [true, true, false, false, false, false, false, true, true, false, false, false, false, false, false, false, false, false, false]
def cf138E0 (t0 t1 t7 t8 : AV) : List AV := [t0, t1, .top, .top, .top, .top, .top, t7, t8, .top, .top, .top, .top, .top, .top, .top, .top, .top, .top]
def cf138L0 : C :=
 (.seq (.reg [⟨(some 9), (.bin .lss), [.t 8, .t 7], none, 0, 0⟩] false)
 (.seq (.cond (.t 9) .skip
  (.exit 0))
 (.seq (.block 1 (.seq (.reg [⟨(some 10), .mov, [.t 8], none, 0, 0⟩,
    ⟨(some 5), .mov, [.t 10], none, 0, 0⟩] false)
  (.seq (.reg [⟨(some 11), .mov, [.t 1], none, 0, 0⟩,
    ⟨(some 12), .mov, [.t 0], none, 0, 0⟩,
    ⟨(some 13), .mov, [.t 5], none, 0, 0⟩,
    ⟨(some 14), (.iad 1 false none), [.t 12, .t 13], none, 0, 0⟩,
    ⟨(some 15), (.load 1 false), [.t 14], none, 0, 0⟩,
    ⟨(some 16), (.bin .eql), [.t 11, .t 15], none, 0, 0⟩] false)
  (.cond (.t 16) (.seq (.reg [⟨(some 17), .mov, [.t 5], none, 0, 0⟩,
     ⟨(some 4), .mov, [.t 17], none, 0, 0⟩] false)
   .ret)
   .skip))))
 (.reg [⟨(some 18), (.bin .add), [.t 8, .c (.int .i64 1)], none, 0, 0⟩,
   ⟨(some 8), .mov, [.t 18], none, 0, 0⟩] false))))
def cf138 : CF := ⟨2, 19, [.inl 4],
 (.seq (.reg [⟨(some 4), .mov, [.c (.int .i64 0)], none, 0, 0⟩] false)
 (.seq (.seq (.reg [⟨(some 6), .mov, [.t 0], none, 0, 0⟩,
   ⟨(some 7), (.len 1), [.t 6], none, 0, 0⟩,
   ⟨(some 8), .mov, [.c (.int .i64 0)], none, 0, 0⟩] false)
 (.block 0 (.loop cf138L0 cf138M0)))
 (.seq (.reg [⟨(some 4), .mov, [.c (.int .i64 (-1))], none, 0, 0⟩] false)
 .ret)))⟩
def cf139 : CF := ⟨1, 23, [.inl 2],
 (.seq (.reg [⟨(some 1), .box, [.t 0], none, 0, 1⟩,
   ⟨(some 2), .mov, [.c (.bool false)], none, 0, 0⟩] false)
 (.seq (.reg [⟨(some 3), (.fad 0 1 false), [.t 1], none, 0, 0⟩,
   ⟨(some 4), (.load 1 false), [.t 3], none, 0, 0⟩,
   ⟨(some 5), (.bin .eql), [.t 4, .c (.str [])], none, 0, 0⟩,
   ⟨(some 6), .mov, [.t 5], none, 0, 0⟩,
   ⟨(some 7), (.fad 0 1 false), [.t 1], (some (6, false)), 0, 0⟩,
   ⟨(some 8), (.load 1 false), [.t 7], (some (6, false)), 0, 0⟩,
   ⟨(some 9), (.call 57 false false), [.t 8], (some (6, false)), 0, 5⟩,
   ⟨(some 10), .pick, [.t 6, .c (.bool true), .t 9], none, 0, 0⟩,
   ⟨(some 11), .mov, [.t 10], none, 0, 0⟩,
   ⟨(some 12), (.fad 1 1 false), [.t 1], (some (11, true)), 0, 0⟩,
   ⟨(some 13), (.load 1 false), [.t 12], (some (11, true)), 0, 0⟩,
   ⟨(some 14), (.len 1), [.t 13], (some (11, true)), 0, 0⟩,
   ⟨(some 15), (.bin .leq), [.t 14, .c (.int .i64 6)], (some (11, true)), 0, 0⟩,
   ⟨(some 16), .pick, [.t 11, .t 15, .c (.bool false)], none, 0, 0⟩,
   ⟨(some 17), .mov, [.t 16], none, 0, 0⟩,
   ⟨(some 18), (.fad 1 1 false), [.t 1], (some (17, true)), 0, 0⟩,
   ⟨(some 19), (.load 1 false), [.t 18], (some (17, true)), 0, 0⟩,
   ⟨(some 20), (.call 175 false false), [.t 19, .f 176], (some (17, true)), 0, 9⟩,
   ⟨(some 21), (.un .not), [.t 20], (some (17, true)), 0, 0⟩,
   ⟨(some 22), .pick, [.t 17, .t 21, .c (.bool false)], none, 0, 0⟩,
   ⟨(some 2), .mov, [.t 22], none, 0, 0⟩] false)
 .ret))⟩
def cf140M0 : List Bool := [true, false, false, false, false, false, false, true, true, false, false, false, false, false, false, false, false, false, false, false, false]
def cf140E0 (t0 t7 t8 : AV) : List AV := [t0, .top, .top, .top, .top, .top, .top, t7, t8, .top, .top, .top, .top, .top, .top, .top, .top, .top, .top, .top, .top]
def cf140L0 : C :=
 (.seq (.reg [⟨(some 9), (.bin .lss), [.t 8, .c (.int .i64 22)], none, 0, 0⟩] false)
 (.seq (.cond (.t 9) .skip
  (.exit 0))
 (.seq (.block 1 (.seq (.reg [⟨(some 10), (.ixa 22 3 true), [.t 7, .t 8], none, 0, 0⟩,
    ⟨(some 6), (.alloc [(.str []), (.sl true [] true), (.str [])] true), [], none, 0, 5⟩,
    ⟨none, (.store 3 true), [.t 6, .t 10], none, 0, 0⟩] false)
  (.seq (.reg [⟨(some 11), (.fad 0 1 false), [.t 6], none, 0, 0⟩,
    ⟨(some 12), (.load 1 false), [.t 11], none, 0, 0⟩,
    ⟨(some 13), .mov, [.t 0], none, 0, 0⟩,
    ⟨(some 14), (.bin .eql), [.t 12, .t 13], none, 0, 0⟩] false)
  (.cond (.t 14) (.seq (.reg [⟨(some 15), (.fad 1 1 false), [.t 6], none, 0, 0⟩,
     ⟨(some 16), (.load 1 false), [.t 15], none, 1, 0⟩,
     ⟨(some 17), (.call 107 true false), [.t 16], none, 3, 9⟩,
     ⟨(some 18), (.fad 2 1 false), [.t 6], none, 0, 0⟩,
     ⟨(some 19), (.load 1 false), [.t 18], none, 8, 0⟩,
     ⟨(some 2), .mov, [.t 17], none, 7, 0⟩,
     ⟨(some 3), .mov, [.t 19], none, 63, 0⟩,
     ⟨(some 4), .mov, [.c (.bool true)], none, 127, 0⟩] true)
   .ret)
   .skip))))
 (.reg [⟨(some 20), (.bin .add), [.t 8, .c (.int .i64 1)], none, 0, 0⟩,
   ⟨(some 8), .mov, [.t 20], none, 0, 0⟩] false))))
def cf140 : CF := ⟨1, 21, [.inl 2, .inl 3, .inl 4],
 (.seq (.reg [⟨(some 2), .mov, [.c (.sl true [] true)], none, 0, 0⟩,
   ⟨(some 3), .mov, [.c (.str [])], none, 0, 0⟩,
   ⟨(some 4), .mov, [.c (.bool false)], none, 0, 0⟩] false)
 (.seq (.seq (.reg [⟨(some 7), (.call 177 false false), [], none, 0, 1⟩,
   ⟨(some 8), .mov, [.c (.int .i64 0)], none, 0, 0⟩] false)
 (.block 0 (.loop cf140L0 cf140M0)))
 (.seq (.reg [⟨(some 2), .mov, [.c (.sl true [] true)], none, 0, 0⟩,
   ⟨(some 3), .mov, [.c (.str [])], none, 0, 0⟩,
   ⟨(some 4), .mov, [.c (.bool false)], none, 0, 0⟩] false)
 .ret)))⟩
def cf141 : CF := ⟨2, 9, [.inl 4],
 (.seq (.reg [⟨(some 4), .mov, [.c (.bool false)], none, 0, 0⟩] false)
 (.seq (.reg [⟨(some 5), .mov, [.t 0], none, 0, 0⟩,
   ⟨(some 6), .mov, [.t 1], none, 0, 0⟩,
   ⟨(some 7), (.call 178 false false), [.t 5, .t 6], none, 0, 1⟩,
   ⟨(some 8), (.bin .geq), [.t 7, .c (.int .i64 0)], none, 0, 0⟩,
   ⟨(some 4), .mov, [.t 8], none, 0, 0⟩] false)
 .ret))⟩
def cf142 : CF := ⟨2, 17, [.inl 4],
 (.seq (.reg [⟨(some 2), .box, [.t 0], none, 0, 1⟩,
   ⟨(some 3), .box, [.t 1], none, 0, 5⟩,
   ⟨(some 4), .mov, [.c (.bool false)], none, 0, 0⟩] false)
 (.seq (.reg [⟨(some 5), (.fad 0 1 false), [.t 2], none, 0, 0⟩,
   ⟨(some 6), (.load 1 false), [.t 5], none, 0, 0⟩,
   ⟨(some 7), (.fad 0 1 false), [.t 3], none, 0, 0⟩,
   ⟨(some 8), (.load 1 false), [.t 7], none, 0, 0⟩,
   ⟨(some 9), (.bin .eql), [.t 6, .t 8], none, 0, 0⟩,
   ⟨(some 10), .mov, [.t 9], none, 0, 0⟩,
   ⟨(some 11), (.fad 1 1 false), [.t 2], (some (10, true)), 0, 0⟩,
   ⟨(some 12), (.load 1 false), [.t 11], (some (10, true)), 0, 0⟩,
   ⟨(some 13), (.fad 1 1 false), [.t 3], (some (10, true)), 0, 0⟩,
   ⟨(some 14), (.load 1 false), [.t 13], (some (10, true)), 0, 0⟩,
   ⟨(some 15), (.call 106 false false), [.t 12, .t 14], (some (10, true)), 0, 9⟩,
   ⟨(some 16), .pick, [.t 10, .t 15, .c (.bool false)], none, 0, 0⟩,
   ⟨(some 4), .mov, [.t 16], none, 0, 0⟩] false)
 .ret))⟩
def cf143 : CF := ⟨2, 17, [.inl 4],
 (.seq (.reg [⟨(some 2), .box, [.t 0], none, 0, 1⟩,
   ⟨(some 3), .box, [.t 1], none, 0, 5⟩,
   ⟨(some 4), .mov, [.c (.bool false)], none, 0, 0⟩] false)
 (.seq (.reg [⟨(some 5), (.fad 0 1 false), [.t 2], none, 0, 0⟩,
   ⟨(some 6), (.load 1 false), [.t 5], none, 0, 0⟩,
   ⟨(some 7), (.fad 0 1 false), [.t 3], none, 0, 0⟩,
   ⟨(some 8), (.load 1 false), [.t 7], none, 0, 0⟩,
   ⟨(some 9), (.bin .eql), [.t 6, .t 8], none, 0, 0⟩,
   ⟨(some 10), .mov, [.t 9], none, 0, 0⟩,
   ⟨(some 11), (.fad 1 1 false), [.t 2], (some (10, true)), 0, 0⟩,
   ⟨(some 12), (.load 1 false), [.t 11], (some (10, true)), 0, 0⟩,
   ⟨(some 13), (.fad 1 1 false), [.t 3], (some (10, true)), 0, 0⟩,
   ⟨(some 14), (.load 1 false), [.t 13], (some (10, true)), 0, 0⟩,
   ⟨(some 15), (.call 106 false false), [.t 12, .t 14], (some (10, true)), 0, 9⟩,
   ⟨(some 16), .pick, [.t 10, .t 15, .c (.bool false)], none, 0, 0⟩,
   ⟨(some 4), .mov, [.t 16], none, 0, 0⟩] false)
 .ret))⟩
def cf144 : CF := ⟨2, 8, [.inl 4],
 (.seq (.reg [⟨(some 4), .mov, [.c (.bool false)], none, 0, 0⟩] false)
 (.seq (.reg [⟨(some 5), .mov, [.t 0], none, 0, 0⟩,
   ⟨(some 6), .mov, [.t 1], none, 0, 0⟩,
   ⟨(some 7), (.call 179 false false), [.t 5, .t 6, .f 180], none, 0, 1⟩,
   ⟨(some 4), .mov, [.t 7], none, 0, 0⟩] false)
 .ret))⟩
def cf145M0 : List Bool := [false, true, true, false, false, false, false, false, false, false, false, false, false, false, false, true, true, true, false, false, false, false, false, false, false, false, false, false, false, false, false, false]
def cf145E0 (t1 t2 t15 t16 t17 : AV) : List AV := [.top, t1, t2, .top, .top, .top, .top, .top, .top, .top, .top, .top, .top, .top, .top, t15, t16, t17, .top, .top, .top, .top, .top, .top, .top, .top, .top, .top, .top, .top, .top, .top]
def cf145L0 : C :=
 (.seq (.reg [⟨(some 18), (.bin .lss), [.t 17, .t 16], none, 0, 0⟩] false)
 (.seq (.cond (.t 18) .skip
  (.exit 0))
 (.seq (.block 1 (.seq (.reg [⟨(some 19), .mov, [.t 17], none, 0, 0⟩,
    ⟨(some 20), (.iad 9 true none), [.t 15, .t 17], none, 0, 0⟩,
    ⟨(some 21), (.load 9 true), [.t 20], none, 0, 0⟩,
    ⟨(some 8), (.alloc [(.str []), (.int .i64 0), (.int .i64 0), (.str []), (.sl true [] true), (.bool false), (.int .i64 0), (.sl true [] true), (.sl true [] true)] true), [], none, 0, 1⟩,
    ⟨(some 7), .mov, [.t 19], none, 0, 0⟩,
    ⟨none, (.store 9 true), [.t 8, .t 21], none, 0, 0⟩] false)
  (.seq (.reg [⟨(some 22), .mov, [.t 1], none, 0, 0⟩,
    ⟨(some 23), .mov, [.t 7], none, 0, 0⟩,
    ⟨(some 24), (.iad 9 true none), [.t 22, .t 23], none, 0, 0⟩,
    ⟨(some 25), (.load 9 true), [.t 24], none, 0, 0⟩,
    ⟨(some 9), (.alloc [(.str []), (.int .i64 0), (.int .i64 0), (.str []), (.sl true [] true), (.bool false), (.int .i64 0), (.sl true [] true), (.sl true [] true)] true), [], none, 0, 5⟩,
    ⟨none, (.store 9 true), [.t 9, .t 25], none, 0, 0⟩] false)
  (.seq (.reg [⟨(some 26), .mov, [.t 2], none, 0, 0⟩,
    ⟨(some 27), (.load 9 true), [.t 8], none, 0, 0⟩,
    ⟨(some 28), (.load 9 true), [.t 9], none, 0, 0⟩,
    ⟨(some 29), (.callv false false), [.t 26, .t 27, .t 28], none, 0, 9⟩,
    ⟨(some 30), (.un .not), [.t 29], none, 0, 0⟩] false)
  (.cond (.t 30) (.seq (.reg [⟨(some 6), .mov, [.c (.bool false)], none, 0, 0⟩] false)
   .ret)
   .skip)))))
 (.reg [⟨(some 31), (.bin .add), [.t 17, .c (.int .i64 1)], none, 0, 0⟩,
   ⟨(some 17), .mov, [.t 31], none, 0, 0⟩] false))))
def cf145 : CF := ⟨3, 32, [.inl 6],
 (.seq (.reg [⟨(some 6), .mov, [.c (.bool false)], none, 0, 0⟩] false)
 (.seq (.seq (.reg [⟨(some 10), .mov, [.t 0], none, 0, 0⟩,
   ⟨(some 11), (.len 1), [.t 10], none, 0, 0⟩,
   ⟨(some 12), .mov, [.t 1], none, 0, 0⟩,
   ⟨(some 13), (.len 1), [.t 12], none, 0, 0⟩,
   ⟨(some 14), (.bin .neq), [.t 11, .t 13], none, 0, 0⟩] false)
 (.cond (.t 14) (.seq (.reg [⟨(some 6), .mov, [.c (.bool false)], none, 0, 0⟩] false)
  .ret)
  .skip))
 (.seq (.seq (.reg [⟨(some 15), .mov, [.t 0], none, 0, 0⟩,
   ⟨(some 16), (.len 1), [.t 15], none, 0, 0⟩,
   ⟨(some 17), .mov, [.c (.int .i64 0)], none, 0, 0⟩] false)
 (.block 0 (.loop cf145L0 cf145M0)))
 (.seq (.reg [⟨(some 6), .mov, [.c (.bool true)], none, 0, 0⟩] false)
 .ret))))⟩
def cf146M0 : List Bool := [false, false, false, true, false, false, false, true, true, true, false, false, false, false, false, false, false, false, false]
def cf146E0 (t3 t7 t8 t9 : AV) : List AV := [.top, .top, .top, t3, .top, .top, .top, t7, t8, t9, .top, .top, .top, .top, .top, .top, .top, .top, .top]
def cf146L0 : C :=
 (.seq (.reg [⟨(some 10), (.bin .lss), [.t 9, .t 8], none, 0, 0⟩] false)
 (.seq (.cond (.t 10) .skip
  (.exit 0))
 (.seq (.block 1 (.seq (.reg [⟨(some 11), (.iad 9 true none), [.t 7, .t 9], none, 0, 0⟩,
    ⟨(some 12), (.load 9 true), [.t 11], none, 0, 0⟩,
    ⟨(some 5), (.alloc [(.str []), (.int .i64 0), (.int .i64 0), (.str []), (.sl true [] true), (.bool false), (.int .i64 0), (.sl true [] true), (.sl true [] true)] true), [], none, 0, 5⟩,
    ⟨none, (.store 9 true), [.t 5, .t 12], none, 0, 0⟩] false)
  (.reg [⟨(some 13), .mov, [.t 3], none, 0, 0⟩,
    ⟨(some 14), (.load 9 true), [.t 5], none, 0, 0⟩,
    ⟨(some 15), (.call 146 false false), [.t 14], none, 0, 9⟩,
    ⟨(some 16), (.bin .add), [.t 13, .t 15], none, 0, 0⟩,
    ⟨(some 3), .mov, [.t 16], none, 0, 0⟩] false)))
 (.reg [⟨(some 17), (.bin .add), [.t 9, .c (.int .i64 1)], none, 0, 0⟩,
   ⟨(some 9), .mov, [.t 17], none, 0, 0⟩] false))))
def cf146 : CF := ⟨1, 19, [.inl 2],
 (.seq (.reg [⟨(some 1), .box, [.t 0], none, 0, 1⟩,
   ⟨(some 2), .mov, [.c (.int .i64 0)], none, 0, 0⟩] false)
 (.seq (.reg [⟨(some 3), .mov, [.c (.int .i64 1)], none, 0, 0⟩] false)
 (.seq (.seq (.reg [⟨(some 6), (.fad 8 1 false), [.t 1], none, 0, 0⟩,
   ⟨(some 7), (.load 1 false), [.t 6], none, 0, 0⟩,
   ⟨(some 8), (.len 1), [.t 7], none, 0, 0⟩,
   ⟨(some 9), .mov, [.c (.int .i64 0)], none, 0, 0⟩] false)
 (.block 0 (.loop cf146L0 cf146M0)))
 (.seq (.reg [⟨(some 18), .mov, [.t 3], none, 0, 0⟩,
   ⟨(some 2), .mov, [.t 18], none, 0, 0⟩] false)
 .ret))))⟩
def cf147M0 : List Bool := [false, true, true, true, false, false, false, false, false, false, false, false, false, false, false, false, false, false, false, false, false, false, false, true, true, true, false, false, false, false, false, false, false, false, false, false, false, false, false, false, false, false, false, false, false, false, false, false, false, false]
def cf147E0 (t1 t2 t3 t23 t24 t25 : AV) : List AV := [.top, t1, t2, t3, .top, .top, .top, .top, .top, .top, .top, .top, .top, .top, .top, .top, .top, .top, .top, .top, .top, .top, .top, t23, t24, t25, .top, .top, .top, .top, .top, .top, .top, .top, .top, .top, .top, .top, .top, .top, .top, .top, .top, .top, .top, .top, .top, .top, .top, .top]
def cf147L0 : C :=
 (.seq (.reg [⟨(some 26), (.bin .lss), [.t 25, .t 24], none, 0, 0⟩] false)
 (.seq (.cond (.t 26) .skip
  (.exit 0))
 (.seq (.block 1 (.seq (.reg [⟨(some 27), .mov, [.t 25], none, 0, 0⟩,
    ⟨(some 28), (.iad 9 true none), [.t 23, .t 25], none, 0, 0⟩,
    ⟨(some 29), (.load 9 true), [.t 28], none, 0, 0⟩,
    ⟨(some 8), (.alloc [(.str []), (.int .i64 0), (.int .i64 0), (.str []), (.sl true [] true), (.bool false), (.int .i64 0), (.sl true [] true), (.sl true [] true)] true), [], none, 0, 13⟩,
    ⟨(some 7), .mov, [.t 27], none, 0, 0⟩,
    ⟨none, (.store 9 true), [.t 8, .t 29], none, 0, 0⟩] false)
  (.seq (.reg [⟨(some 30), .mov, [.t 1], none, 0, 0⟩,
    ⟨(some 9), .mov, [.t 30], none, 0, 0⟩] false)
  (.seq (.seq (.reg [⟨(some 31), (.fad 0 1 false), [.t 3], none, 0, 0⟩,
    ⟨(some 32), (.load 1 false), [.t 31], none, 0, 0⟩,
    ⟨(some 33), (.bin .eql), [.t 32, .c (.str [114, 101, 100, 117, 99, 101])], none, 0, 0⟩,
    ⟨(some 34), .mov, [.t 33], none, 0, 0⟩,
    ⟨(some 35), .mov, [.t 7], (some (34, true)), 0, 0⟩,
    ⟨(some 36), (.bin .eql), [.t 35, .c (.int .i64 1)], (some (34, true)), 0, 0⟩,
    ⟨(some 37), .pick, [.t 34, .t 36, .c (.bool false)], none, 0, 0⟩] false)
  (.cond (.t 37) (.reg [⟨(some 38), .mov, [.t 1], none, 0, 0⟩,
     ⟨(some 39), (.fad 3 1 false), [.t 3], none, 0, 0⟩,
     ⟨(some 40), (.load 1 false), [.t 39], none, 0, 0⟩,
     ⟨(some 41), (.mkSl 1 false false), [.t 40], none, 0, 0⟩,
     ⟨(some 42), (.mkSl 1 false false), [.t 38, .t 41], none, 0, 0⟩,
     ⟨(some 43), (.call 184 true false), [.t 42], none, 0, 17⟩,
     ⟨(some 9), .mov, [.t 43], none, 0, 0⟩] false)
   .skip))
  (.seq (.reg [⟨(some 44), (.load 9 true), [.t 8], none, 0, 0⟩,
    ⟨(some 45), .mov, [.t 9], none, 0, 0⟩,
    ⟨(some 46), .mov, [.t 2], none, 0, 0⟩,
    ⟨(some 47), (.call 147 false false), [.t 44, .t 45, .t 46], none, 0, 21⟩,
    ⟨(some 48), (.un .not), [.t 47], none, 0, 0⟩] false)
  (.cond (.t 48) (.seq (.reg [⟨(some 6), .mov, [.c (.bool false)], none, 0, 0⟩] false)
   .ret)
   .skip))))))
 (.reg [⟨(some 49), (.bin .add), [.t 25, .c (.int .i64 1)], none, 0, 0⟩,
   ⟨(some 25), .mov, [.t 49], none, 0, 0⟩] false))))
def cf147 : CF := ⟨3, 50, [.inl 6],
 (.seq (.reg [⟨(some 3), .box, [.t 0], none, 0, 1⟩,
   ⟨(some 6), .mov, [.c (.bool false)], none, 0, 0⟩] false)
 (.seq (.seq (.reg [⟨(some 10), (.load 9 true), [.t 3], none, 0, 0⟩,
   ⟨(some 11), .mov, [.t 1], none, 0, 0⟩,
   ⟨(some 12), .mov, [.t 2], none, 0, 0⟩,
   ⟨(some 13), (.call 182 false false), [.t 10, .t 11, .t 12], none, 0, 5⟩,
   ⟨(some 14), (.un .not), [.t 13], none, 0, 0⟩,
   ⟨(some 15), .mov, [.t 14], none, 0, 0⟩,
   ⟨(some 16), (.fad 4 1 false), [.t 3], (some (15, false)), 0, 0⟩,
   ⟨(some 17), (.load 1 false), [.t 16], (some (15, false)), 0, 0⟩,
   ⟨(some 18), .mov, [.t 1], (some (15, false)), 0, 0⟩,
   ⟨(some 19), (.call 183 false false), [.t 17, .t 18], (some (15, false)), 0, 9⟩,
   ⟨(some 20), (.un .not), [.t 19], (some (15, false)), 0, 0⟩,
   ⟨(some 21), .pick, [.t 15, .c (.bool true), .t 20], none, 0, 0⟩] false)
 (.cond (.t 21) (.seq (.reg [⟨(some 6), .mov, [.c (.bool false)], none, 0, 0⟩] false)
  .ret)
  .skip))
 (.seq (.seq (.reg [⟨(some 22), (.fad 8 1 false), [.t 3], none, 0, 0⟩,
   ⟨(some 23), (.load 1 false), [.t 22], none, 0, 0⟩,
   ⟨(some 24), (.len 1), [.t 23], none, 0, 0⟩,
   ⟨(some 25), .mov, [.c (.int .i64 0)], none, 0, 0⟩] false)
 (.block 0 (.loop cf147L0 cf147M0)))
 (.seq (.reg [⟨(some 6), .mov, [.c (.bool true)], none, 0, 0⟩] false)
 .ret))))⟩
def cf148 : CF := ⟨2, 22, [.inl 4],
 (.seq (.reg [⟨(some 4), .mov, [.c (.bool false)], none, 0, 0⟩] false)
 (.seq (.seq (.reg [⟨(some 5), .mov, [.t 0], none, 0, 0⟩] false)
 (.block 0 (.seq (.reg [⟨(some 7), (.bin .eql), [.t 5, .c (.str [105, 110, 116])], none, 0, 0⟩,
    ⟨(some 6), .mov, [.t 7], none, 0, 0⟩] false)
  (.cond (.t 6) (.seq (.reg [⟨(some 8), .mov, [.t 1], none, 0, 0⟩,
     ⟨(some 9), (.bin .geq), [.t 8, .c (.int .i64 (-2147483648))], none, 0, 0⟩,
     ⟨(some 10), .mov, [.t 9], none, 0, 0⟩,
     ⟨(some 11), .mov, [.t 1], (some (10, true)), 0, 0⟩,
     ⟨(some 12), (.bin .leq), [.t 11, .c (.int .i64 2147483647)], (some (10, true)), 0, 0⟩,
     ⟨(some 13), .pick, [.t 10, .t 12, .c (.bool false)], none, 0, 0⟩,
     ⟨(some 4), .mov, [.t 13], none, 0, 0⟩] false)
   .ret)
   (.seq (.reg [⟨(some 15), (.bin .eql), [.t 5, .c (.str [98, 111, 111, 108])], none, 0, 0⟩,
     ⟨(some 14), .mov, [.t 15], none, 0, 0⟩] false)
   (.cond (.t 14) (.seq (.reg [⟨(some 16), .mov, [.t 1], none, 0, 0⟩,
      ⟨(some 17), (.bin .eql), [.t 16, .c (.int .i64 0)], none, 0, 0⟩,
      ⟨(some 18), .mov, [.t 17], none, 0, 0⟩,
      ⟨(some 19), .mov, [.t 1], (some (18, false)), 0, 0⟩,
      ⟨(some 20), (.bin .eql), [.t 19, .c (.int .i64 1)], (some (18, false)), 0, 0⟩,
      ⟨(some 21), .pick, [.t 18, .c (.bool true), .t 20], none, 0, 0⟩,
      ⟨(some 4), .mov, [.t 21], none, 0, 0⟩] false)
    .ret)
    .skip))))))
 (.seq (.reg [⟨(some 4), .mov, [.c (.bool false)], none, 0, 0⟩] false)
 .ret)))⟩
def cf171 : CF := ⟨2, 10, [.inl 4],
 (.seq (.reg [⟨(some 4), .mov, [.c (.bool false)], none, 0, 0⟩] false)
 (.seq (.reg [⟨(some 5), .mov, [.t 0], none, 0, 0⟩,
   ⟨(some 6), .mov, [.t 1], none, 0, 0⟩,
   ⟨(some 7), .nilc, [.t 5], none, 0, 0⟩,
   ⟨(some 8), (.iad 1 false (some 256)), [.t 7, .t 6], none, 0, 0⟩,
   ⟨(some 9), (.load 1 false), [.t 8], none, 0, 0⟩,
   ⟨(some 4), .mov, [.t 9], none, 0, 0⟩] false)
 .ret))⟩
def cf172 : CF := ⟨1, 19, [.inl 2, .inl 3],
 (.seq (.reg [⟨(some 2), .mov, [.c (.int .i32 0)], none, 0, 0⟩,
   ⟨(some 3), .mov, [.c (.int .i64 0)], none, 0, 0⟩] false)
 (.seq (.seq (.reg [⟨(some 4), .mov, [.t 0], none, 0, 0⟩,
   ⟨(some 5), (.bin .neq), [.t 4, .c (.str [])], none, 0, 0⟩,
   ⟨(some 6), .mov, [.t 5], none, 0, 0⟩,
   ⟨(some 7), .mov, [.t 0], (some (6, true)), 0, 0⟩,
   ⟨(some 8), .ixs, [.t 7, .c (.int .i64 0)], (some (6, true)), 0, 0⟩,
   ⟨(some 9), (.bin .lss), [.t 8, .c (.int .u8 128)], (some (6, true)), 0, 0⟩,
   ⟨(some 10), .pick, [.t 6, .t 9, .c (.bool false)], none, 0, 0⟩] false)
 (.cond (.t 10) (.seq (.reg [⟨(some 11), .mov, [.t 0], none, 0, 0⟩,
    ⟨(some 12), .ixs, [.t 11, .c (.int .i64 0)], none, 0, 0⟩,
    ⟨(some 13), (.cvi .i32), [.t 12], none, 0, 0⟩,
    ⟨(some 2), .mov, [.t 13], none, 0, 0⟩,
    ⟨(some 3), .mov, [.c (.int .i64 1)], none, 0, 0⟩] false)
  .ret)
  (.reg [⟨(some 15), .mov, [.t 0], none, 0, 0⟩,
    ⟨(some 16), (.call 202 false false), [.t 15], none, 0, 1⟩,
    ⟨(some 14), .mov, [.t 16], none, 0, 0⟩,
    ⟨(some 17), (.ext 0), [.t 14], none, 0, 0⟩,
    ⟨(some 18), (.ext 1), [.t 14], none, 0, 0⟩,
    ⟨(some 2), .mov, [.t 17], none, 0, 0⟩,
    ⟨(some 3), .mov, [.t 18], none, 0, 0⟩] false)))
 .ret))⟩
def cf173 : CF := ⟨2, 9, [.inl 4],
 (.seq (.reg [⟨(some 4), .mov, [.c (.bool false)], none, 0, 0⟩] false)
 (.seq (.reg [⟨(some 5), .mov, [.t 0], none, 0, 0⟩,
   ⟨(some 6), .mov, [.t 1], none, 0, 0⟩,
   ⟨(some 7), (.call 203 false false), [.t 5, .t 6], none, 0, 1⟩,
   ⟨(some 8), (.bin .geq), [.t 7, .c (.int .i64 0)], none, 0, 0⟩,
   ⟨(some 4), .mov, [.t 8], none, 0, 0⟩] false)
 .ret))⟩
def cf174M0 : List Bool := [true, false, false, false, true, true, true, false, false, false, false, false, false, false, false, false, false, false, false, false, false, false, false, false, false, false, false, false, false, false, false, false, false, false, false, false, false, false, false, false, false, false, false, false, false, false, false, false, false, false, false]
def cf174E0 (t0 t4 t5 t6 : AV) : List AV := [t0, .top, .top, .top, t4, t5, t6, .top, .top, .top, .top, .top, .top, .top, .top, .top, .top, .top, .top, .top, .top, .top, .top, .top, .top, .top, .top, .top, .top, .top, .top, .top, .top, .top, .top, .top, .top, .top, .top, .top, .top, .top, .top, .top, .top, .top, .top, .top, .top, .top, .top]
def cf174L0 : C :=
 (.seq (.seq (.reg [⟨(some 25), .mov, [.t 5], none, 0, 0⟩,
   ⟨(some 26), .mov, [.t 6], none, 0, 0⟩,
   ⟨(some 27), (.bin .geq), [.t 25, .t 26], none, 0, 0⟩] false)
 (.cond (.t 27) .skip
  (.exit 0)))
 (.seq (.block 1 (.seq (.reg [⟨(some 30), .mov, [.t 0], none, 0, 0⟩,
    ⟨(some 31), .mov, [.t 5], none, 0, 0⟩,
    ⟨(some 32), .ixs, [.t 30, .t 31], none, 0, 0⟩,
    ⟨(some 33), (.call 204 false false), [.t 32], none, 0, 1⟩] false)
  (.cond (.t 33) (.exit 0)
   .skip)))
 (.reg [⟨(some 28), .mov, [.t 5], none, 0, 0⟩,
   ⟨(some 29), (.bin .sub), [.t 28, .c (.int .i64 1)], none, 0, 0⟩,
   ⟨(some 5), .mov, [.t 29], none, 0, 0⟩] false)))
def cf174 : CF := ⟨1, 51, [.inl 2, .inl 3],
 (.seq (.reg [⟨(some 2), .mov, [.c (.int .i32 0)], none, 0, 0⟩,
   ⟨(some 3), .mov, [.c (.int .i64 0)], none, 0, 0⟩] false)
 (.seq (.reg [⟨(some 7), .mov, [.t 0], none, 0, 0⟩,
   ⟨(some 8), (.len 0), [.t 7], none, 0, 0⟩,
   ⟨(some 4), .mov, [.t 8], none, 0, 0⟩] false)
 (.seq (.seq (.reg [⟨(some 9), .mov, [.t 4], none, 0, 0⟩,
   ⟨(some 10), (.bin .eql), [.t 9, .c (.int .i64 0)], none, 0, 0⟩] false)
 (.cond (.t 10) (.seq (.reg [⟨(some 2), .mov, [.c (.int .i32 65533)], none, 0, 0⟩,
    ⟨(some 3), .mov, [.c (.int .i64 0)], none, 0, 0⟩] false)
  .ret)
  .skip))
 (.seq (.reg [⟨(some 11), .mov, [.t 4], none, 0, 0⟩,
   ⟨(some 12), (.bin .sub), [.t 11, .c (.int .i64 1)], none, 0, 0⟩,
   ⟨(some 5), .mov, [.t 12], none, 0, 0⟩] false)
 (.seq (.reg [⟨(some 13), .mov, [.t 0], none, 0, 0⟩,
   ⟨(some 14), .mov, [.t 5], none, 0, 0⟩,
   ⟨(some 15), .ixs, [.t 13, .t 14], none, 0, 0⟩,
   ⟨(some 16), (.cvi .i32), [.t 15], none, 0, 0⟩,
   ⟨(some 2), .mov, [.t 16], none, 0, 0⟩] false)
 (.seq (.seq (.reg [⟨(some 17), .mov, [.t 2], none, 0, 0⟩,
   ⟨(some 18), (.bin .lss), [.t 17, .c (.int .i32 128)], none, 0, 0⟩] false)
 (.cond (.t 18) (.seq (.reg [⟨(some 19), .mov, [.t 2], none, 0, 0⟩,
    ⟨(some 2), .mov, [.t 19], none, 0, 0⟩,
    ⟨(some 3), .mov, [.c (.int .i64 1)], none, 0, 0⟩] false)
  .ret)
  .skip))
 (.seq (.reg [⟨(some 20), .mov, [.t 4], none, 0, 0⟩,
   ⟨(some 21), (.bin .sub), [.t 20, .c (.int .i64 4)], none, 0, 0⟩,
   ⟨(some 22), .mx, [.t 21, .c (.int .i64 0)], none, 0, 0⟩,
   ⟨(some 6), .mov, [.t 22], none, 0, 0⟩] false)
 (.seq (.seq (.reg [⟨(some 23), .mov, [.t 5], none, 0, 0⟩,
   ⟨(some 24), (.bin .sub), [.t 23, .c (.int .i64 1)], none, 0, 0⟩,
   ⟨(some 5), .mov, [.t 24], none, 0, 0⟩] false)
 (.block 0 (.loop cf174L0 cf174M0)))
 (.seq (.seq (.reg [⟨(some 34), .mov, [.t 5], none, 0, 0⟩,
   ⟨(some 35), (.bin .lss), [.t 34, .c (.int .i64 0)], none, 0, 0⟩] false)
 (.cond (.t 35) (.reg [⟨(some 5), .mov, [.c (.int .i64 0)], none, 0, 0⟩] false)
  .skip))
 (.seq (.reg [⟨(some 37), .mov, [.t 0], none, 0, 0⟩,
   ⟨(some 38), .mov, [.t 5], none, 0, 0⟩,
   ⟨(some 39), .mov, [.t 4], none, 0, 0⟩,
   ⟨(some 40), (.sls true true), [.t 37, .t 38, .t 39], none, 0, 0⟩,
   ⟨(some 41), (.call 172 false false), [.t 40], none, 0, 5⟩,
   ⟨(some 36), .mov, [.t 41], none, 0, 0⟩,
   ⟨(some 42), (.ext 0), [.t 36], none, 0, 0⟩,
   ⟨(some 43), (.ext 1), [.t 36], none, 0, 0⟩,
   ⟨(some 2), .mov, [.t 42], none, 0, 0⟩,
   ⟨(some 3), .mov, [.t 43], none, 0, 0⟩] false)
 (.seq (.seq (.reg [⟨(some 44), .mov, [.t 5], none, 0, 0⟩,
   ⟨(some 45), .mov, [.t 3], none, 0, 0⟩,
   ⟨(some 46), (.bin .add), [.t 44, .t 45], none, 0, 0⟩,
   ⟨(some 47), .mov, [.t 4], none, 0, 0⟩,
   ⟨(some 48), (.bin .neq), [.t 46, .t 47], none, 0, 0⟩] false)
 (.cond (.t 48) (.seq (.reg [⟨(some 2), .mov, [.c (.int .i32 65533)], none, 0, 0⟩,
    ⟨(some 3), .mov, [.c (.int .i64 1)], none, 0, 0⟩] false)
  .ret)
  .skip))
 (.seq (.reg [⟨(some 49), .mov, [.t 2], none, 0, 0⟩,
   ⟨(some 50), .mov, [.t 3], none, 0, 0⟩,
   ⟨(some 2), .mov, [.t 49], none, 0, 0⟩,
   ⟨(some 3), .mov, [.t 50], none, 0, 0⟩] false)
 .ret))))))))))))⟩
def cf175 : CF := ⟨2, 9, [.inl 4],
 (.seq (.reg [⟨(some 4), .mov, [.c (.bool false)], none, 0, 0⟩] false)
 (.seq (.reg [⟨(some 5), .mov, [.t 0], none, 0, 0⟩,
   ⟨(some 6), .mov, [.t 1], none, 0, 0⟩,
   ⟨(some 7), (.call 205 false false), [.t 5, .t 6], none, 0, 1⟩,
   ⟨(some 8), (.bin .geq), [.t 7, .c (.int .i64 0)], none, 0, 0⟩,
   ⟨(some 4), .mov, [.t 8], none, 0, 0⟩] false)
 .ret))⟩
def cf176 : CF := ⟨1, 6, [.inl 2],
 (.seq (.reg [⟨(some 1), .box, [.t 0], none, 0, 1⟩,
   ⟨(some 2), .mov, [.c (.bool false)], none, 0, 0⟩] false)
 (.seq (.reg [⟨(some 3), (.load 2 true), [.t 1], none, 0, 0⟩,
   ⟨(some 4), (.call 51 false false), [.t 3], none, 0, 5⟩,
   ⟨(some 5), (.un .not), [.t 4], none, 0, 0⟩,
   ⟨(some 2), .mov, [.t 5], none, 0, 0⟩] false)
 .ret))⟩
def cf177 : CF := ⟨0, 54, [.inr (0, 66, true)],
 (.seq (.reg [⟨(some 0), (.alloc [(.str []), (.sl true [] true), (.str []), (.str []), (.sl true [] true), (.str []), (.str []), (.sl true [] true), (.str []), (.str []), (.sl true [] true), (.str []), (.str []), (.sl true [] true), (.str []), (.str []), (.sl true [] true), (.str []), (.str []), (.sl true [] true), (.str []), (.str []), (.sl true [] true), (.str []), (.str []), (.sl true [] true), (.str []), (.str []), (.sl true [] true), (.str []), (.str []), (.sl true [] true), (.str []), (.str []), (.sl true [] true), (.str []), (.str []), (.sl true [] true), (.str []), (.str []), (.sl true [] true), (.str []), (.str []), (.sl true [] true), (.str []), (.str []), (.sl true [] true), (.str []), (.str []), (.sl true [] true), (.str []), (.str []), (.sl true [] true), (.str []), (.str []), (.sl true [] true), (.str []), (.str []), (.sl true [] true), (.str []), (.str []), (.sl true [] true), (.str []), (.str []), (.sl true [] true), (.str [])] true), [], none, 0, 1⟩] false)
 (.seq (.reg [⟨(some 5), (.mkSl 1 false false), [.c (.str [105, 110, 116]), .c (.str [105, 110, 116])], none, 0, 0⟩,
   ⟨(some 6), (.mkSl 1 false false), [.c (.str [105, 110, 116])], none, 0, 0⟩,
   ⟨(some 1), .mov, [.t 5], none, 0, 0⟩,
   ⟨(some 2), .mov, [.t 6], none, 0, 0⟩] false)
 (.seq (.reg [⟨(some 7), (.mkSl 1 false false), [.c (.str [65]), .c (.str [65])], none, 0, 0⟩,
   ⟨(some 8), (.mkSl 1 false false), [.c (.str [98, 111, 111, 108]), .c (.str [98, 111, 111, 108])], none, 0, 0⟩,
   ⟨(some 3), .mov, [.t 7], none, 0, 0⟩,
   ⟨(some 4), .mov, [.t 8], none, 0, 0⟩] false)
 (.seq (.reg [⟨(some 9), .mov, [.t 1], none, 0, 0⟩,
   ⟨(some 10), (.build [(.str []), (.sl true [] true), (.str [])] [(0, 1), (1, 1), (2, 1)]), [.c (.str [97, 100, 100]), .t 9, .c (.str [105, 110, 116])], none, 0, 0⟩,
   ⟨(some 11), .mov, [.t 1], none, 0, 0⟩,
   ⟨(some 12), (.build [(.str []), (.sl true [] true), (.str [])] [(0, 1), (1, 1), (2, 1)]), [.c (.str [115, 117, 98]), .t 11, .c (.str [105, 110, 116])], none, 0, 0⟩,
   ⟨(some 13), .mov, [.t 1], none, 0, 0⟩,
   ⟨(some 14), (.build [(.str []), (.sl true [] true), (.str [])] [(0, 1), (1, 1), (2, 1)]), [.c (.str [109, 117, 108]), .t 13, .c (.str [105, 110, 116])], none, 0, 0⟩,
   ⟨(some 15), .mov, [.t 1], none, 0, 0⟩,
   ⟨(some 16), (.build [(.str []), (.sl true [] true), (.str [])] [(0, 1), (1, 1), (2, 1)]), [.c (.str [100, 105, 118]), .t 15, .c (.str [105, 110, 116])], none, 0, 0⟩,
   ⟨(some 17), .mov, [.t 1], none, 0, 0⟩,
   ⟨(some 18), (.build [(.str []), (.sl true [] true), (.str [])] [(0, 1), (1, 1), (2, 1)]), [.c (.str [109, 111, 100]), .t 17, .c (.str [105, 110, 116])], none, 0, 0⟩,
   ⟨(some 19), .mov, [.t 1], none, 0, 0⟩,
   ⟨(some 20), (.build [(.str []), (.sl true [] true), (.str [])] [(0, 1), (1, 1), (2, 1)]), [.c (.str [109, 105, 110]), .t 19, .c (.str [105, 110, 116])], none, 0, 0⟩,
   ⟨(some 21), .mov, [.t 1], none, 0, 0⟩,
   ⟨(some 22), (.build [(.str []), (.sl true [] true), (.str [])] [(0, 1), (1, 1), (2, 1)]), [.c (.str [109, 97, 120]), .t 21, .c (.str [105, 110, 116])], none, 0, 0⟩,
   ⟨(some 23), .mov, [.t 2], none, 0, 0⟩,
   ⟨(some 24), (.build [(.str []), (.sl true [] true), (.str [])] [(0, 1), (1, 1), (2, 1)]), [.c (.str [110, 101, 103]), .t 23, .c (.str [105, 110, 116])], none, 0, 0⟩,
   ⟨(some 25), .mov, [.t 2], none, 0, 0⟩,
   ⟨(some 26), (.build [(.str []), (.sl true [] true), (.str [])] [(0, 1), (1, 1), (2, 1)]), [.c (.str [97, 98, 115]), .t 25, .c (.str [105, 110, 116])], none, 0, 0⟩,
   ⟨(some 27), .mov, [.t 2], none, 0, 0⟩,
   ⟨(some 28), (.build [(.str []), (.sl true [] true), (.str [])] [(0, 1), (1, 1), (2, 1)]), [.c (.str [115, 105, 103, 110]), .t 27, .c (.str [105, 110, 116])], none, 0, 0⟩,
   ⟨(some 29), .mov, [.t 1], none, 0, 0⟩,
   ⟨(some 30), (.build [(.str []), (.sl true [] true), (.str [])] [(0, 1), (1, 1), (2, 1)]), [.c (.str [108, 116]), .t 29, .c (.str [98, 111, 111, 108])], none, 0, 0⟩,
   ⟨(some 31), .mov, [.t 1], none, 0, 0⟩,
   ⟨(some 32), (.build [(.str []), (.sl true [] true), (.str [])] [(0, 1), (1, 1), (2, 1)]), [.c (.str [108, 101]), .t 31, .c (.str [98, 111, 111, 108])], none, 0, 0⟩,
   ⟨(some 33), .mov, [.t 1], none, 0, 0⟩,
   ⟨(some 34), (.build [(.str []), (.sl true [] true), (.str [])] [(0, 1), (1, 1), (2, 1)]), [.c (.str [103, 116]), .t 33, .c (.str [98, 111, 111, 108])], none, 0, 0⟩,
   ⟨(some 35), .mov, [.t 1], none, 0, 0⟩,
   ⟨(some 36), (.build [(.str []), (.sl true [] true), (.str [])] [(0, 1), (1, 1), (2, 1)]), [.c (.str [103, 101]), .t 35, .c (.str [98, 111, 111, 108])], none, 0, 0⟩,
   ⟨(some 37), .mov, [.t 3], none, 0, 0⟩,
   ⟨(some 38), (.build [(.str []), (.sl true [] true), (.str [])] [(0, 1), (1, 1), (2, 1)]), [.c (.str [101, 113]), .t 37, .c (.str [98, 111, 111, 108])], none, 0, 0⟩,
   ⟨(some 39), .mov, [.t 3], none, 0, 0⟩,
   ⟨(some 40), (.build [(.str []), (.sl true [] true), (.str [])] [(0, 1), (1, 1), (2, 1)]), [.c (.str [110, 101]), .t 39, .c (.str [98, 111, 111, 108])], none, 0, 0⟩,
   ⟨(some 41), .mov, [.t 4], none, 0, 0⟩,
   ⟨(some 42), (.build [(.str []), (.sl true [] true), (.str [])] [(0, 1), (1, 1), (2, 1)]), [.c (.str [97, 110, 100]), .t 41, .c (.str [98, 111, 111, 108])], none, 0, 0⟩,
   ⟨(some 43), .mov, [.t 4], none, 0, 0⟩,
   ⟨(some 44), (.build [(.str []), (.sl true [] true), (.str [])] [(0, 1), (1, 1), (2, 1)]), [.c (.str [111, 114]), .t 43, .c (.str [98, 111, 111, 108])], none, 0, 0⟩,
   ⟨(some 45), .mov, [.t 4], none, 0, 0⟩,
   ⟨(some 46), (.build [(.str []), (.sl true [] true), (.str [])] [(0, 1), (1, 1), (2, 1)]), [.c (.str [120, 111, 114]), .t 45, .c (.str [98, 111, 111, 108])], none, 0, 0⟩,
   ⟨(some 47), (.mkSl 1 false false), [.c (.str [98, 111, 111, 108])], none, 0, 0⟩,
   ⟨(some 48), (.build [(.str []), (.sl true [] true), (.str [])] [(0, 1), (1, 1), (2, 1)]), [.c (.str [110, 111, 116]), .t 47, .c (.str [98, 111, 111, 108])], none, 0, 0⟩,
   ⟨(some 49), (.mkSl 1 false false), [.c (.str [98, 111, 111, 108]), .c (.str [65]), .c (.str [65])], none, 0, 0⟩,
   ⟨(some 50), (.build [(.str []), (.sl true [] true), (.str [])] [(0, 1), (1, 1), (2, 1)]), [.c (.str [115, 101, 108, 101, 99, 116]), .t 49, .c (.str [65])], none, 0, 0⟩,
   ⟨(some 51), (.mkSl 1 false false), [.c (.str [98, 111, 111, 108])], none, 0, 0⟩,
   ⟨(some 52), (.build [(.str []), (.sl true [] true), (.str [])] [(0, 1), (1, 1), (2, 1)]), [.c (.str [116, 111, 105, 110, 116]), .t 51, .c (.str [105, 110, 116])], none, 0, 0⟩,
   ⟨(some 53), (.build [(.str []), (.sl true [] true), (.str []), (.str []), (.sl true [] true), (.str []), (.str []), (.sl true [] true), (.str []), (.str []), (.sl true [] true), (.str []), (.str []), (.sl true [] true), (.str []), (.str []), (.sl true [] true), (.str []), (.str []), (.sl true [] true), (.str []), (.str []), (.sl true [] true), (.str []), (.str []), (.sl true [] true), (.str []), (.str []), (.sl true [] true), (.str []), (.str []), (.sl true [] true), (.str []), (.str []), (.sl true [] true), (.str []), (.str []), (.sl true [] true), (.str []), (.str []), (.sl true [] true), (.str []), (.str []), (.sl true [] true), (.str []), (.str []), (.sl true [] true), (.str []), (.str []), (.sl true [] true), (.str []), (.str []), (.sl true [] true), (.str []), (.str []), (.sl true [] true), (.str []), (.str []), (.sl true [] true), (.str []), (.str []), (.sl true [] true), (.str []), (.str []), (.sl true [] true), (.str [])] [(0, 3), (3, 3), (6, 3), (9, 3), (12, 3), (15, 3), (18, 3), (21, 3), (24, 3), (27, 3), (30, 3), (33, 3), (36, 3), (39, 3), (42, 3), (45, 3), (48, 3), (51, 3), (54, 3), (57, 3), (60, 3), (63, 3)]), [.t 10, .t 12, .t 14, .t 16, .t 18, .t 20, .t 22, .t 24, .t 26, .t 28, .t 30, .t 32, .t 34, .t 36, .t 38, .t 40, .t 42, .t 44, .t 46, .t 48, .t 50, .t 52], none, 0, 0⟩,
   ⟨none, (.store 66 true), [.t 0, .t 53], none, 0, 0⟩] false)
 .ret))))⟩
def cf178M0 : List Bool := [true, true, false, false, false, false, false, true, true, false, false, false, false, false, false, false, false, false, false]
def cf178E0 (t0 t1 t7 t8 : AV) : List AV := [t0, t1, .top, .top, .top, .top, .top, t7, t8, .top, .top, .top, .top, .top, .top, .top, .top, .top, .top]
def cf178L0 : C :=
 (.seq (.reg [⟨(some 9), (.bin .lss), [.t 8, .t 7], none, 0, 0⟩] false)
 (.seq (.cond (.t 9) .skip
  (.exit 0))
 (.seq (.block 1 (.seq (.reg [⟨(some 10), .mov, [.t 8], none, 0, 0⟩,
    ⟨(some 5), .mov, [.t 10], none, 0, 0⟩] false)
  (.seq (.reg [⟨(some 11), .mov, [.t 1], none, 0, 0⟩,
    ⟨(some 12), .mov, [.t 0], none, 0, 0⟩,
    ⟨(some 13), .mov, [.t 5], none, 0, 0⟩,
    ⟨(some 14), (.iad 1 false none), [.t 12, .t 13], none, 0, 0⟩,
    ⟨(some 15), (.load 1 false), [.t 14], none, 0, 0⟩,
    ⟨(some 16), (.beq false), [.t 11, .t 15], none, 0, 0⟩] false)
  (.cond (.t 16) (.seq (.reg [⟨(some 17), .mov, [.t 5], none, 0, 0⟩,
     ⟨(some 4), .mov, [.t 17], none, 0, 0⟩] false)
   .ret)
   .skip))))
 (.reg [⟨(some 18), (.bin .add), [.t 8, .c (.int .i64 1)], none, 0, 0⟩,
   ⟨(some 8), .mov, [.t 18], none, 0, 0⟩] false))))
def cf178 : CF := ⟨2, 19, [.inl 4],
 (.seq (.reg [⟨(some 4), .mov, [.c (.int .i64 0)], none, 0, 0⟩] false)
 (.seq (.seq (.reg [⟨(some 6), .mov, [.t 0], none, 0, 0⟩,
   ⟨(some 7), (.len 1), [.t 6], none, 0, 0⟩,
   ⟨(some 8), .mov, [.c (.int .i64 0)], none, 0, 0⟩] false)
 (.block 0 (.loop cf178L0 cf178M0)))
 (.seq (.reg [⟨(some 4), .mov, [.c (.int .i64 (-1))], none, 0, 0⟩] false)
 .ret)))⟩
def cf179M0 : List Bool := [false, true, true, false, false, false, false, false, false, false, false, false, false, false, false, true, true, true, false, false, false, false, false, false, false, false, false, false, false, false, false, false]
def cf179E0 (t1 t2 t15 t16 t17 : AV) : List AV := [.top, t1, t2, .top, .top, .top, .top, .top, .top, .top, .top, .top, .top, .top, .top, t15, t16, t17, .top, .top, .top, .top, .top, .top, .top, .top, .top, .top, .top, .top, .top, .top]
def cf179L0 : C :=
 (.seq (.reg [⟨(some 18), (.bin .lss), [.t 17, .t 16], none, 0, 0⟩] false)
 (.seq (.cond (.t 18) .skip
  (.exit 0))
 (.seq (.block 1 (.seq (.reg [⟨(some 19), .mov, [.t 17], none, 0, 0⟩,
    ⟨(some 20), (.iad 3 true none), [.t 15, .t 17], none, 0, 0⟩,
    ⟨(some 21), (.load 3 true), [.t 20], none, 0, 0⟩,
    ⟨(some 8), (.alloc [(.str []), (.int .i64 0), (.sl true [] true)] true), [], none, 0, 1⟩,
    ⟨(some 7), .mov, [.t 19], none, 0, 0⟩,
    ⟨none, (.store 3 true), [.t 8, .t 21], none, 0, 0⟩] false)
  (.seq (.reg [⟨(some 22), .mov, [.t 1], none, 0, 0⟩,
    ⟨(some 23), .mov, [.t 7], none, 0, 0⟩,
    ⟨(some 24), (.iad 3 true none), [.t 22, .t 23], none, 0, 0⟩,
    ⟨(some 25), (.load 3 true), [.t 24], none, 0, 0⟩,
    ⟨(some 9), (.alloc [(.str []), (.int .i64 0), (.sl true [] true)] true), [], none, 0, 5⟩,
    ⟨none, (.store 3 true), [.t 9, .t 25], none, 0, 0⟩] false)
  (.seq (.reg [⟨(some 26), .mov, [.t 2], none, 0, 0⟩,
    ⟨(some 27), (.load 3 true), [.t 8], none, 0, 0⟩,
    ⟨(some 28), (.load 3 true), [.t 9], none, 0, 0⟩,
    ⟨(some 29), (.callv false false), [.t 26, .t 27, .t 28], none, 0, 9⟩,
    ⟨(some 30), (.un .not), [.t 29], none, 0, 0⟩] false)
  (.cond (.t 30) (.seq (.reg [⟨(some 6), .mov, [.c (.bool false)], none, 0, 0⟩] false)
   .ret)
   .skip)))))
 (.reg [⟨(some 31), (.bin .add), [.t 17, .c (.int .i64 1)], none, 0, 0⟩,
   ⟨(some 17), .mov, [.t 31], none, 0, 0⟩] false))))
def cf179 : CF := ⟨3, 32, [.inl 6],
 (.seq (.reg [⟨(some 6), .mov, [.c (.bool false)], none, 0, 0⟩] false)
 (.seq (.seq (.reg [⟨(some 10), .mov, [.t 0], none, 0, 0⟩,
   ⟨(some 11), (.len 1), [.t 10], none, 0, 0⟩,
   ⟨(some 12), .mov, [.t 1], none, 0, 0⟩,
   ⟨(some 13), (.len 1), [.t 12], none, 0, 0⟩,
   ⟨(some 14), (.bin .neq), [.t 11, .t 13], none, 0, 0⟩] false)
 (.cond (.t 14) (.seq (.reg [⟨(some 6), .mov, [.c (.bool false)], none, 0, 0⟩] false)
  .ret)
  .skip))
 (.seq (.seq (.reg [⟨(some 15), .mov, [.t 0], none, 0, 0⟩,
   ⟨(some 16), (.len 1), [.t 15], none, 0, 0⟩,
   ⟨(some 17), .mov, [.c (.int .i64 0)], none, 0, 0⟩] false)
 (.block 0 (.loop cf179L0 cf179M0)))
 (.seq (.reg [⟨(some 6), .mov, [.c (.bool true)], none, 0, 0⟩] false)
 .ret))))⟩
def cf180 : CF := ⟨2, 24, [.inl 4],
 (.seq (.reg [⟨(some 2), .box, [.t 0], none, 0, 1⟩,
   ⟨(some 3), .box, [.t 1], none, 0, 5⟩,
   ⟨(some 4), .mov, [.c (.bool false)], none, 0, 0⟩] false)
 (.seq (.reg [⟨(some 5), (.fad 0 1 false), [.t 2], none, 0, 0⟩,
   ⟨(some 6), (.load 1 false), [.t 5], none, 0, 0⟩,
   ⟨(some 7), (.fad 0 1 false), [.t 3], none, 0, 0⟩,
   ⟨(some 8), (.load 1 false), [.t 7], none, 0, 0⟩,
   ⟨(some 9), (.bin .eql), [.t 6, .t 8], none, 0, 0⟩,
   ⟨(some 10), .mov, [.t 9], none, 0, 0⟩,
   ⟨(some 11), (.fad 1 1 false), [.t 2], (some (10, true)), 0, 0⟩,
   ⟨(some 12), (.load 1 false), [.t 11], (some (10, true)), 0, 0⟩,
   ⟨(some 13), (.fad 1 1 false), [.t 3], (some (10, true)), 0, 0⟩,
   ⟨(some 14), (.load 1 false), [.t 13], (some (10, true)), 0, 0⟩,
   ⟨(some 15), (.bin .eql), [.t 12, .t 14], (some (10, true)), 0, 0⟩,
   ⟨(some 16), .pick, [.t 10, .t 15, .c (.bool false)], none, 0, 0⟩,
   ⟨(some 17), .mov, [.t 16], none, 0, 0⟩,
   ⟨(some 18), (.fad 2 1 false), [.t 2], (some (17, true)), 0, 0⟩,
   ⟨(some 19), (.load 1 false), [.t 18], (some (17, true)), 0, 0⟩,
   ⟨(some 20), (.fad 2 1 false), [.t 3], (some (17, true)), 0, 0⟩,
   ⟨(some 21), (.load 1 false), [.t 20], (some (17, true)), 0, 0⟩,
   ⟨(some 22), (.call 181 false false), [.t 19, .t 21], (some (17, true)), 0, 9⟩,
   ⟨(some 23), .pick, [.t 17, .t 22, .c (.bool false)], none, 0, 0⟩,
   ⟨(some 4), .mov, [.t 23], none, 0, 0⟩] false)
 .ret))⟩
def cf181M0 : List Bool := [true, true, false, false, false, false, false, false, false, false, false, false, true, true, false, false, false, false, false, false, false, false, false, false, false, false]
def cf181E0 (t0 t1 t12 t13 : AV) : List AV := [t0, t1, .top, .top, .top, .top, .top, .top, .top, .top, .top, .top, t12, t13, .top, .top, .top, .top, .top, .top, .top, .top, .top, .top, .top, .top]
def cf181L0 : C :=
 (.seq (.reg [⟨(some 14), (.bin .lss), [.t 13, .t 12], none, 0, 0⟩] false)
 (.seq (.cond (.t 14) .skip
  (.exit 0))
 (.seq (.block 1 (.seq (.reg [⟨(some 15), .mov, [.t 13], none, 0, 0⟩,
    ⟨(some 5), .mov, [.t 15], none, 0, 0⟩] false)
  (.seq (.reg [⟨(some 16), .mov, [.t 0], none, 0, 0⟩,
    ⟨(some 17), .mov, [.t 5], none, 0, 0⟩,
    ⟨(some 18), (.iad 1 false none), [.t 16, .t 17], none, 3, 0⟩,
    ⟨(some 19), (.load 1 false), [.t 18], none, 7, 0⟩,
    ⟨(some 20), .mov, [.t 1], none, 0, 0⟩,
    ⟨(some 21), .mov, [.t 5], none, 0, 0⟩,
    ⟨(some 22), (.iad 1 false none), [.t 20, .t 21], none, 48, 0⟩,
    ⟨(some 23), (.load 1 false), [.t 22], none, 112, 0⟩,
    ⟨(some 24), (.bin .neq), [.t 19, .t 23], none, 255, 0⟩] true)
  (.cond (.t 24) (.seq (.reg [⟨(some 4), .mov, [.c (.bool false)], none, 0, 0⟩] false)
   .ret)
   .skip))))
 (.reg [⟨(some 25), (.bin .add), [.t 13, .c (.int .i64 1)], none, 0, 0⟩,
   ⟨(some 13), .mov, [.t 25], none, 0, 0⟩] false))))
def cf181 : CF := ⟨2, 26, [.inl 4],
 (.seq (.reg [⟨(some 4), .mov, [.c (.bool false)], none, 0, 0⟩] false)
 (.seq (.seq (.reg [⟨(some 6), .mov, [.t 0], none, 0, 0⟩,
   ⟨(some 7), (.len 1), [.t 6], none, 0, 0⟩,
   ⟨(some 8), .mov, [.t 1], none, 0, 0⟩,
   ⟨(some 9), (.len 1), [.t 8], none, 0, 0⟩,
   ⟨(some 10), (.bin .neq), [.t 7, .t 9], none, 0, 0⟩] false)
 (.cond (.t 10) (.seq (.reg [⟨(some 4), .mov, [.c (.bool false)], none, 0, 0⟩] false)
  .ret)
  .skip))
 (.seq (.seq (.reg [⟨(some 11), .mov, [.t 0], none, 0, 0⟩,
   ⟨(some 12), (.len 1), [.t 11], none, 0, 0⟩,
   ⟨(some 13), .mov, [.c (.int .i64 0)], none, 0, 0⟩] false)
 (.block 0 (.loop cf181L0 cf181M0)))
 (.seq (.reg [⟨(some 4), .mov, [.c (.bool true)], none, 0, 0⟩] false)
 .ret))))⟩
def cf182 : CF := ⟨3, 129, [.inl 6],
 (.seq (.reg [⟨(some 3), .box, [.t 0], none, 0, 1⟩,
   ⟨(some 6), .mov, [.c (.bool false)], none, 0, 0⟩] false)
 (.seq (.seq (.reg [⟨(some 10), (.fad 0 1 false), [.t 3], none, 0, 0⟩,
   ⟨(some 11), (.load 1 false), [.t 10], none, 0, 0⟩] false)
 (.block 0 (.seq (.reg [⟨(some 13), (.bin .eql), [.t 11, .c (.str [99, 111, 110, 115, 116])], none, 0, 0⟩,
    ⟨(some 12), .mov, [.t 13], none, 0, 0⟩] false)
  (.cond (.t 12) (.seq (.reg [⟨(some 14), (.load 9 true), [.t 3], none, 0, 0⟩,
     ⟨(some 15), (.call 206 false false), [.t 14, .c (.bool true), .c (.bool false), .c (.bool false), .c (.bool false), .c (.bool false), .c (.bool false)], none, 0, 5⟩,
     ⟨(some 16), .mov, [.t 15], none, 0, 0⟩,
     ⟨(some 17), (.fad 8 1 false), [.t 3], (some (16, true)), 0, 0⟩,
     ⟨(some 18), (.load 1 false), [.t 17], (some (16, true)), 0, 0⟩,
     ⟨(some 19), (.len 1), [.t 18], (some (16, true)), 0, 0⟩,
     ⟨(some 20), (.bin .eql), [.t 19, .c (.int .i64 0)], (some (16, true)), 0, 0⟩,
     ⟨(some 21), .pick, [.t 16, .t 20, .c (.bool false)], none, 0, 0⟩,
     ⟨(some 22), .mov, [.t 21], none, 0, 0⟩,
     ⟨(some 23), (.fad 1 1 false), [.t 3], (some (22, true)), 0, 0⟩,
     ⟨(some 24), (.load 1 false), [.t 23], (some (22, true)), 0, 0⟩,
     ⟨(some 25), (.call 148 false false), [.c (.str [105, 110, 116]), .t 24], (some (22, true)), 0, 9⟩,
     ⟨(some 26), .pick, [.t 22, .t 25, .c (.bool false)], none, 0, 0⟩,
     ⟨(some 6), .mov, [.t 26], none, 0, 0⟩] false)
   .ret)
   (.seq (.reg [⟨(some 28), (.bin .eql), [.t 11, .c (.str [108, 105, 110, 101, 97, 114])], none, 0, 0⟩,
     ⟨(some 27), .mov, [.t 28], none, 0, 0⟩] false)
   (.cond (.t 27) (.seq (.reg [⟨(some 29), (.load 9 true), [.t 3], none, 0, 0⟩,
      ⟨(some 30), (.call 206 false false), [.t 29, .c (.bool false), .c (.bool false), .c (.bool false), .c (.bool true), .c (.bool false), .c (.bool false)], none, 0, 13⟩,
      ⟨(some 31), .mov, [.t 30], none, 0, 0⟩,
      ⟨(some 32), (.fad 8 1 false), [.t 3], (some (31, true)), 0, 0⟩,
      ⟨(some 33), (.load 1 false), [.t 32], (some (31, true)), 0, 0⟩,
      ⟨(some 34), (.len 1), [.t 33], (some (31, true)), 0, 0⟩,
      ⟨(some 35), (.bin .eql), [.t 34, .c (.int .i64 0)], (some (31, true)), 0, 0⟩,
      ⟨(some 36), .pick, [.t 31, .t 35, .c (.bool false)], none, 0, 0⟩,
      ⟨(some 37), .mov, [.t 36], none, 0, 0⟩,
      ⟨(some 38), (.fad 4 1 false), [.t 3], (some (37, true)), 0, 0⟩,
      ⟨(some 39), (.load 1 false), [.t 38], (some (37, true)), 0, 0⟩,
      ⟨(some 40), (.len 1), [.t 39], (some (37, true)), 0, 0⟩,
      ⟨(some 41), (.bin .eql), [.t 40, .c (.int .i64 1)], (some (37, true)), 0, 0⟩,
      ⟨(some 42), .pick, [.t 37, .t 41, .c (.bool false)], none, 0, 0⟩,
      ⟨(some 6), .mov, [.t 42], none, 0, 0⟩] false)
    .ret)
    (.seq (.reg [⟨(some 44), (.bin .eql), [.t 11, .c (.str [114, 101, 97, 100])], none, 0, 0⟩,
      ⟨(some 43), .mov, [.t 44], none, 0, 0⟩] false)
    (.cond (.t 43) (.seq (.reg [⟨(some 45), (.load 9 true), [.t 3], none, 0, 0⟩,
       ⟨(some 46), .mov, [.t 2], none, 0, 0⟩,
       ⟨(some 47), (.call 207 false false), [.t 45, .t 46], none, 0, 17⟩,
       ⟨(some 6), .mov, [.t 47], none, 0, 0⟩] false)
     .ret)
     (.seq (.reg [⟨(some 49), (.bin .eql), [.t 11, .c (.str [105, 102])], none, 0, 0⟩,
       ⟨(some 48), .mov, [.t 49], none, 0, 0⟩] false)
     (.cond (.t 48) (.seq (.reg [⟨(some 50), (.load 9 true), [.t 3], none, 0, 0⟩,
        ⟨(some 51), (.call 206 false false), [.t 50, .c (.bool false), .c (.bool false), .c (.bool false), .c (.bool true), .c (.bool false), .c (.bool false)], none, 0, 21⟩,
        ⟨(some 52), .mov, [.t 51], none, 0, 0⟩,
        ⟨(some 53), (.fad 8 1 false), [.t 3], (some (52, true)), 0, 0⟩,
        ⟨(some 54), (.load 1 false), [.t 53], (some (52, true)), 0, 0⟩,
        ⟨(some 55), (.len 1), [.t 54], (some (52, true)), 0, 0⟩,
        ⟨(some 56), (.bin .eql), [.t 55, .c (.int .i64 2)], (some (52, true)), 0, 0⟩,
        ⟨(some 57), .pick, [.t 52, .t 56, .c (.bool false)], none, 0, 0⟩,
        ⟨(some 58), .mov, [.t 57], none, 0, 0⟩,
        ⟨(some 59), (.fad 4 1 false), [.t 3], (some (58, true)), 0, 0⟩,
        ⟨(some 60), (.load 1 false), [.t 59], (some (58, true)), 0, 0⟩,
        ⟨(some 61), (.len 1), [.t 60], (some (58, true)), 0, 0⟩,
        ⟨(some 62), (.bin .eql), [.t 61, .c (.int .i64 1)], (some (58, true)), 0, 0⟩,
        ⟨(some 63), .pick, [.t 58, .t 62, .c (.bool false)], none, 0, 0⟩,
        ⟨(some 6), .mov, [.t 63], none, 0, 0⟩] false)
      .ret)
      (.seq (.reg [⟨(some 65), (.bin .eql), [.t 11, .c (.str [114, 101, 100, 117, 99, 101])], none, 0, 0⟩,
        ⟨(some 64), .mov, [.t 65], none, 0, 0⟩] false)
      (.cond (.t 64) (.seq (.reg [⟨(some 66), (.load 9 true), [.t 3], none, 0, 0⟩,
         ⟨(some 67), (.call 206 false false), [.t 66, .c (.bool false), .c (.bool false), .c (.bool true), .c (.bool true), .c (.bool false), .c (.bool true)], none, 0, 25⟩,
         ⟨(some 68), .mov, [.t 67], none, 0, 0⟩,
         ⟨(some 69), (.fad 8 1 false), [.t 3], (some (68, true)), 0, 0⟩,
         ⟨(some 70), (.load 1 false), [.t 69], (some (68, true)), 0, 0⟩,
         ⟨(some 71), (.len 1), [.t 70], (some (68, true)), 0, 0⟩,
         ⟨(some 72), (.bin .eql), [.t 71, .c (.int .i64 2)], (some (68, true)), 0, 0⟩,
         ⟨(some 73), .pick, [.t 68, .t 72, .c (.bool false)], none, 0, 0⟩,
         ⟨(some 74), .mov, [.t 73], none, 0, 0⟩,
         ⟨(some 75), (.fad 4 1 false), [.t 3], (some (74, true)), 0, 0⟩,
         ⟨(some 76), (.load 1 false), [.t 75], (some (74, true)), 0, 0⟩,
         ⟨(some 77), (.len 1), [.t 76], (some (74, true)), 0, 0⟩,
         ⟨(some 78), (.bin .eql), [.t 77, .c (.int .i64 1)], (some (74, true)), 0, 0⟩,
         ⟨(some 79), .pick, [.t 74, .t 78, .c (.bool false)], none, 0, 0⟩,
         ⟨(some 80), .mov, [.t 79], none, 0, 0⟩,
         ⟨(some 81), (.fad 3 1 false), [.t 3], (some (80, true)), 0, 0⟩,
         ⟨(some 82), (.load 1 false), [.t 81], (some (80, true)), 0, 0⟩,
         ⟨(some 83), (.call 57 false false), [.t 82], (some (80, true)), 0, 29⟩,
         ⟨(some 84), .pick, [.t 80, .t 83, .c (.bool false)], none, 0, 0⟩,
         ⟨(some 85), .mov, [.t 84], none, 0, 0⟩,
         ⟨(some 86), .mov, [.t 1], (some (85, true)), 0, 0⟩,
         ⟨(some 87), (.fad 3 1 false), [.t 3], (some (85, true)), 0, 0⟩,
         ⟨(some 88), (.load 1 false), [.t 87], (some (85, true)), 0, 0⟩,
         ⟨(some 89), (.call 98 false false), [.t 86, .t 88], (some (85, true)), 0, 33⟩,
         ⟨(some 90), (.un .not), [.t 89], (some (85, true)), 0, 0⟩,
         ⟨(some 91), .pick, [.t 85, .t 90, .c (.bool false)], none, 0, 0⟩,
         ⟨(some 92), .mov, [.t 91], none, 0, 0⟩,
         ⟨(some 93), (.fad 7 1 false), [.t 3], (some (92, true)), 0, 0⟩,
         ⟨(some 94), (.load 1 false), [.t 93], (some (92, true)), 0, 0⟩,
         ⟨(some 95), (.call 70 false false), [.t 94, .c (.int .i64 2)], (some (92, true)), 0, 37⟩,
         ⟨(some 96), .pick, [.t 92, .t 95, .c (.bool false)], none, 0, 0⟩,
         ⟨(some 6), .mov, [.t 96], none, 0, 0⟩] false)
       .ret)
       (.seq (.reg [⟨(some 98), (.bin .eql), [.t 11, .c (.str [99, 111, 100, 101])], none, 0, 0⟩,
         ⟨(some 97), .mov, [.t 98], none, 0, 0⟩] false)
       (.cond (.t 97) (.seq (.reg [⟨(some 99), (.load 9 true), [.t 3], none, 0, 0⟩,
          ⟨(some 100), (.call 206 false false), [.t 99, .c (.bool false), .c (.bool false), .c (.bool false), .c (.bool false), .c (.bool false), .c (.bool true)], none, 0, 41⟩,
          ⟨(some 101), .mov, [.t 100], none, 0, 0⟩,
          ⟨(some 102), (.fad 7 1 false), [.t 3], (some (101, true)), 0, 0⟩,
          ⟨(some 103), (.load 1 false), [.t 102], (some (101, true)), 0, 0⟩,
          ⟨(some 104), (.fad 8 1 false), [.t 3], (some (101, true)), 0, 0⟩,
          ⟨(some 105), (.load 1 false), [.t 104], (some (101, true)), 0, 0⟩,
          ⟨(some 106), (.len 1), [.t 105], (some (101, true)), 0, 0⟩,
          ⟨(some 107), (.call 70 false false), [.t 103, .t 106], (some (101, true)), 0, 45⟩,
          ⟨(some 108), .pick, [.t 101, .t 107, .c (.bool false)], none, 0, 0⟩,
          ⟨(some 6), .mov, [.t 108], none, 0, 0⟩] false)
        .ret)
        .skip))))))))))))))
 (.seq (.reg [⟨(some 110), (.fad 0 1 false), [.t 3], none, 0, 0⟩,
   ⟨(some 111), (.load 1 false), [.t 110], none, 0, 0⟩,
   ⟨(some 112), (.call 140 false false), [.t 111], none, 0, 49⟩,
   ⟨(some 109), .mov, [.t 112], none, 0, 0⟩,
   ⟨(some 113), (.ext 0), [.t 109], none, 0, 0⟩,
   ⟨(some 114), (.ext 1), [.t 109], none, 0, 0⟩,
   ⟨(some 115), (.ext 2), [.t 109], none, 0, 0⟩,
   ⟨(some 7), .mov, [.t 113], none, 0, 0⟩,
   ⟨(some 8), .mov, [.t 114], none, 0, 0⟩,
   ⟨(some 9), .mov, [.t 115], none, 0, 0⟩] false)
 (.seq (.reg [⟨(some 116), .mov, [.t 9], none, 0, 0⟩,
   ⟨(some 117), .mov, [.t 116], none, 0, 0⟩,
   ⟨(some 118), (.load 9 true), [.t 3], (some (117, true)), 0, 0⟩,
   ⟨(some 119), (.call 206 false false), [.t 118, .c (.bool false), .c (.bool false), .c (.bool false), .c (.bool false), .c (.bool false), .c (.bool false)], (some (117, true)), 0, 53⟩,
   ⟨(some 120), .pick, [.t 117, .t 119, .c (.bool false)], none, 0, 0⟩,
   ⟨(some 121), .mov, [.t 120], none, 0, 0⟩,
   ⟨(some 122), (.fad 8 1 false), [.t 3], (some (121, true)), 0, 0⟩,
   ⟨(some 123), (.load 1 false), [.t 122], (some (121, true)), 0, 0⟩,
   ⟨(some 124), (.len 1), [.t 123], (some (121, true)), 0, 0⟩,
   ⟨(some 125), .mov, [.t 7], (some (121, true)), 0, 0⟩,
   ⟨(some 126), (.len 1), [.t 125], (some (121, true)), 0, 0⟩,
   ⟨(some 127), (.bin .eql), [.t 124, .t 126], (some (121, true)), 0, 0⟩,
   ⟨(some 128), .pick, [.t 121, .t 127, .c (.bool false)], none, 0, 0⟩,
   ⟨(some 6), .mov, [.t 128], none, 0, 0⟩] false)
 .ret))))⟩
def cf183M0 : List Bool := [false, false, false, true, false, false, false, true, true, true, false, false, false, false, false, false, false, false, false, false, false, false, false]
def cf183E0 (t3 t7 t8 t9 : AV) : List AV := [.top, .top, .top, t3, .top, .top, .top, t7, t8, t9, .top, .top, .top, .top, .top, .top, .top, .top, .top, .top, .top, .top, .top]
def cf183L0 : C :=
 (.seq (.reg [⟨(some 10), (.bin .lss), [.t 9, .t 8], none, 0, 0⟩] false)
 (.seq (.cond (.t 10) .skip
  (.exit 0))
 (.seq (.block 1 (.seq (.reg [⟨(some 11), (.iad 2 true none), [.t 7, .t 9], none, 0, 0⟩,
    ⟨(some 12), (.load 2 true), [.t 11], none, 0, 0⟩,
    ⟨(some 6), (.alloc [(.int .i64 0), (.sl true [] true)] true), [], none, 0, 5⟩,
    ⟨none, (.store 2 true), [.t 6, .t 12], none, 0, 0⟩] false)
  (.seq (.reg [⟨(some 13), (.load 2 true), [.t 6], none, 0, 0⟩,
    ⟨(some 14), (.call 51 false false), [.t 13], none, 0, 9⟩,
    ⟨(some 15), (.un .not), [.t 14], none, 0, 0⟩,
    ⟨(some 16), .mov, [.t 15], none, 0, 0⟩,
    ⟨(some 17), (.load 2 true), [.t 6], (some (16, false)), 0, 0⟩,
    ⟨(some 18), (.call 96 false false), [.t 17], (some (16, false)), 0, 13⟩,
    ⟨(some 19), (.mkf 208), [.t 3], (some (16, false)), 0, 0⟩,
    ⟨(some 20), (.call 95 false false), [.t 18, .t 19], (some (16, false)), 0, 17⟩,
    ⟨(some 21), .pick, [.t 16, .c (.bool true), .t 20], none, 0, 0⟩] false)
  (.cond (.t 21) (.seq (.reg [⟨(some 4), .mov, [.c (.bool false)], none, 0, 0⟩] false)
   .ret)
   .skip))))
 (.reg [⟨(some 22), (.bin .add), [.t 9, .c (.int .i64 1)], none, 0, 0⟩,
   ⟨(some 9), .mov, [.t 22], none, 0, 0⟩] false))))
def cf183 : CF := ⟨2, 23, [.inl 4],
 (.seq (.reg [⟨(some 3), .box, [.t 1], none, 0, 1⟩,
   ⟨(some 4), .mov, [.c (.bool false)], none, 0, 0⟩] false)
 (.seq (.seq (.reg [⟨(some 7), .mov, [.t 0], none, 0, 0⟩,
   ⟨(some 8), (.len 1), [.t 7], none, 0, 0⟩,
   ⟨(some 9), .mov, [.c (.int .i64 0)], none, 0, 0⟩] false)
 (.block 0 (.loop cf183L0 cf183M0)))
 (.seq (.reg [⟨(some 4), .mov, [.c (.bool true)], none, 0, 0⟩] false)
 .ret)))⟩
def cf184M0 : List Bool := [true, false, false, true, false, false, false, false, false, true, true, true, false, false, false, false, false, false, false, false, false, false, false, false, false, false, false, false, false, false, false, false, false, false, false, false]
def cf184E0 (t0 t3 t9 t10 t11 : AV) : List AV := [t0, .top, .top, t3, .top, .top, .top, .top, .top, t9, t10, t11, .top, .top, .top, .top, .top, .top, .top, .top, .top, .top, .top, .top, .top, .top, .top, .top, .top, .top, .top, .top, .top, .top, .top, .top]
def cf184L0 : C :=
 (.seq (.reg [⟨(some 12), (.bin .lss), [.t 11, .t 10], none, 0, 0⟩] false)
 (.seq (.cond (.t 12) .skip
  (.exit 0))
 (.seq (.block 1 (.seq (.reg [⟨(some 13), (.iad 1 false none), [.t 9, .t 11], none, 0, 0⟩,
    ⟨(some 14), (.load 1 false), [.t 13], none, 0, 0⟩,
    ⟨(some 5), .mov, [.t 14], none, 0, 0⟩] false)
  (.seq (.reg [⟨(some 15), .mov, [.t 3], none, 0, 0⟩,
    ⟨(some 16), .mov, [.t 5], none, 0, 0⟩,
    ⟨(some 17), (.len 1), [.t 16], none, 0, 0⟩,
    ⟨(some 18), (.bin .add), [.t 15, .t 17], none, 0, 0⟩,
    ⟨(some 3), .mov, [.t 18], none, 0, 0⟩] false)
  (.seq (.reg [⟨(some 19), .mov, [.t 3], none, 0, 0⟩,
    ⟨(some 20), (.bin .lss), [.t 19, .c (.int .i64 0)], none, 0, 0⟩] false)
  (.cond (.t 20) (.reg [⟨(some 21), .mki, [.c (.str [108, 101, 110, 32, 111, 117, 116, 32, 111, 102, 32, 114, 97, 110, 103, 101])], none, 0, 0⟩,
     ⟨none, .bad, [], none, 0, 0⟩] false)
   .skip)))))
 (.reg [⟨(some 22), (.bin .add), [.t 11, .c (.int .i64 1)], none, 0, 0⟩,
   ⟨(some 11), .mov, [.t 22], none, 0, 0⟩] false))))
def cf184M1 : List Bool := [false, false, false, false, false, false, true, false, false, false, false, false, false, false, false, false, false, false, false, false, false, false, false, false, false, true, true, true, false, false, false, false, false, false, false, false]
def cf184E1 (t6 t25 t26 t27 : AV) : List AV := [.top, .top, .top, .top, .top, .top, t6, .top, .top, .top, .top, .top, .top, .top, .top, .top, .top, .top, .top, .top, .top, .top, .top, .top, .top, t25, t26, t27, .top, .top, .top, .top, .top, .top, .top, .top]
def cf184L1 : C :=
 (.seq (.reg [⟨(some 28), (.bin .lss), [.t 27, .t 26], none, 0, 0⟩] false)
 (.seq (.cond (.t 28) .skip
  (.exit 2))
 (.seq (.block 3 (.seq (.reg [⟨(some 29), (.iad 1 false none), [.t 25, .t 27], none, 0, 0⟩,
    ⟨(some 30), (.load 1 false), [.t 29], none, 0, 0⟩,
    ⟨(some 8), .mov, [.t 30], none, 0, 0⟩] false)
  (.reg [⟨(some 31), .mov, [.t 6], none, 0, 0⟩,
    ⟨(some 32), .mov, [.t 8], none, 0, 0⟩,
    ⟨(some 33), (.app 1 false 16), [.t 31, .t 32], none, 0, 5⟩,
    ⟨(some 6), .mov, [.t 33], none, 0, 0⟩] false)))
 (.reg [⟨(some 34), (.bin .add), [.t 27, .c (.int .i64 1)], none, 0, 0⟩,
   ⟨(some 27), .mov, [.t 34], none, 0, 0⟩] false))))
def cf184 : CF := ⟨1, 36, [.inl 2],
 (.seq (.reg [⟨(some 2), .mov, [.c (.sl true [] true)], none, 0, 0⟩] false)
 (.seq (.reg [⟨(some 3), .mov, [.c (.int .i64 0)], none, 0, 0⟩] false)
 (.seq (.seq (.reg [⟨(some 9), .mov, [.t 0], none, 0, 0⟩,
   ⟨(some 10), (.len 1), [.t 9], none, 0, 0⟩,
   ⟨(some 11), .mov, [.c (.int .i64 0)], none, 0, 0⟩] false)
 (.block 0 (.loop cf184L0 cf184M0)))
 (.seq (.reg [⟨(some 23), .mov, [.t 3], none, 0, 0⟩,
   ⟨(some 24), (.call 209 true false), [.c (.sl true [] true), .t 23], none, 0, 1⟩,
   ⟨(some 6), .mov, [.t 24], none, 0, 0⟩] false)
 (.seq (.seq (.reg [⟨(some 25), .mov, [.t 0], none, 0, 0⟩,
   ⟨(some 26), (.len 1), [.t 25], none, 0, 0⟩,
   ⟨(some 27), .mov, [.c (.int .i64 0)], none, 0, 0⟩] false)
 (.block 2 (.loop cf184L1 cf184M1)))
 (.seq (.reg [⟨(some 35), .mov, [.t 6], none, 0, 0⟩,
   ⟨(some 2), .mov, [.t 35], none, 0, 0⟩] false)
 .ret))))))⟩
def cf202 : CF := ⟨1, 117, [.inl 2, .inl 3],
 (.seq (.reg [⟨(some 2), .mov, [.c (.int .i32 0)], none, 0, 0⟩,
   ⟨(some 3), .mov, [.c (.int .i64 0)], none, 0, 0⟩] false)
 (.seq (.reg [⟨(some 13), .mov, [.t 0], none, 0, 0⟩,
   ⟨(some 14), (.len 0), [.t 13], none, 0, 0⟩,
   ⟨(some 4), .mov, [.t 14], none, 0, 0⟩] false)
 (.seq (.seq (.reg [⟨(some 15), .mov, [.t 4], none, 0, 0⟩,
   ⟨(some 16), (.bin .lss), [.t 15, .c (.int .i64 1)], none, 0, 0⟩] false)
 (.cond (.t 16) (.seq (.reg [⟨(some 2), .mov, [.c (.int .i32 65533)], none, 0, 0⟩,
    ⟨(some 3), .mov, [.c (.int .i64 0)], none, 0, 0⟩] false)
  .ret)
  .skip))
 (.seq (.reg [⟨(some 17), .mov, [.t 0], none, 0, 0⟩,
   ⟨(some 18), .ixs, [.t 17, .c (.int .i64 0)], none, 0, 0⟩,
   ⟨(some 5), .mov, [.t 18], none, 0, 0⟩] false)
 (.seq (.reg [⟨(some 19), .mov, [.t 5], none, 0, 0⟩,
   ⟨(some 20), (.iad 1 false (some 256)), [.g 3, .t 19], none, 0, 0⟩,
   ⟨(some 21), (.load 1 false), [.t 20], none, 0, 0⟩,
   ⟨(some 6), .mov, [.t 21], none, 0, 0⟩] false)
 (.seq (.seq (.reg [⟨(some 22), .mov, [.t 6], none, 0, 0⟩,
   ⟨(some 23), (.bin .geq), [.t 22, .c (.int .u8 240)], none, 0, 0⟩] false)
 (.cond (.t 23) (.seq (.reg [⟨(some 24), .mov, [.t 6], none, 0, 0⟩,
    ⟨(some 25), (.cvi .i32), [.t 24], none, 0, 0⟩,
    ⟨(some 26), (.bin .shl), [.t 25, .c (.int .u64 31)], none, 0, 0⟩,
    ⟨(some 27), (.bin .shr), [.t 26, .c (.int .u64 31)], none, 0, 0⟩,
    ⟨(some 7), .mov, [.t 27], none, 0, 0⟩] false)
  (.seq (.reg [⟨(some 28), .mov, [.t 0], none, 0, 0⟩,
    ⟨(some 29), .ixs, [.t 28, .c (.int .i64 0)], none, 0, 0⟩,
    ⟨(some 30), (.cvi .i32), [.t 29], none, 0, 0⟩,
    ⟨(some 31), .mov, [.t 7], none, 0, 0⟩,
    ⟨(some 32), (.bin .andNot), [.t 30, .t 31], none, 0, 0⟩,
    ⟨(some 33), .mov, [.t 7], none, 0, 0⟩,
    ⟨(some 34), (.bin .and), [.c (.int .i32 65533), .t 33], none, 0, 0⟩,
    ⟨(some 35), (.bin .or), [.t 32, .t 34], none, 0, 0⟩,
    ⟨(some 2), .mov, [.t 35], none, 0, 0⟩,
    ⟨(some 3), .mov, [.c (.int .i64 1)], none, 0, 0⟩] false)
  .ret))
  .skip))
 (.seq (.reg [⟨(some 36), .mov, [.t 6], none, 0, 0⟩,
   ⟨(some 37), (.bin .and), [.t 36, .c (.int .u8 7)], none, 0, 0⟩,
   ⟨(some 38), (.cvi .i64), [.t 37], none, 0, 0⟩,
   ⟨(some 8), .mov, [.t 38], none, 0, 0⟩] false)
 (.seq (.reg [⟨(some 39), .mov, [.t 6], none, 0, 0⟩,
   ⟨(some 40), (.bin .shr), [.t 39, .c (.int .u64 4)], none, 0, 0⟩,
   ⟨(some 41), (.iad 2 true (some 16)), [.g 4, .t 40], none, 0, 0⟩,
   ⟨(some 42), (.load 2 true), [.t 41], none, 0, 0⟩,
   ⟨(some 9), (.alloc [(.int .u8 0), (.int .u8 0)] true), [], none, 0, 1⟩,
   ⟨none, (.store 2 true), [.t 9, .t 42], none, 0, 0⟩] false)
 (.seq (.seq (.reg [⟨(some 43), .mov, [.t 4], none, 0, 0⟩,
   ⟨(some 44), .mov, [.t 8], none, 0, 0⟩,
   ⟨(some 45), (.bin .lss), [.t 43, .t 44], none, 0, 0⟩] false)
 (.cond (.t 45) (.seq (.reg [⟨(some 2), .mov, [.c (.int .i32 65533)], none, 0, 0⟩,
    ⟨(some 3), .mov, [.c (.int .i64 1)], none, 0, 0⟩] false)
  .ret)
  .skip))
 (.seq (.reg [⟨(some 46), .mov, [.t 0], none, 0, 0⟩,
   ⟨(some 47), .ixs, [.t 46, .c (.int .i64 1)], none, 0, 0⟩,
   ⟨(some 10), .mov, [.t 47], none, 0, 0⟩] false)
 (.seq (.seq (.reg [⟨(some 48), .mov, [.t 10], none, 0, 0⟩,
   ⟨(some 49), (.fad 0 1 false), [.t 9], none, 0, 0⟩,
   ⟨(some 50), (.load 1 false), [.t 49], none, 0, 0⟩,
   ⟨(some 51), (.bin .lss), [.t 48, .t 50], none, 0, 0⟩,
   ⟨(some 52), .mov, [.t 51], none, 0, 0⟩,
   ⟨(some 53), (.fad 1 1 false), [.t 9], (some (52, false)), 0, 0⟩,
   ⟨(some 54), (.load 1 false), [.t 53], (some (52, false)), 0, 0⟩,
   ⟨(some 55), .mov, [.t 10], (some (52, false)), 0, 0⟩,
   ⟨(some 56), (.bin .lss), [.t 54, .t 55], (some (52, false)), 0, 0⟩,
   ⟨(some 57), .pick, [.t 52, .c (.bool true), .t 56], none, 0, 0⟩] false)
 (.cond (.t 57) (.seq (.reg [⟨(some 2), .mov, [.c (.int .i32 65533)], none, 0, 0⟩,
    ⟨(some 3), .mov, [.c (.int .i64 1)], none, 0, 0⟩] false)
  .ret)
  .skip))
 (.seq (.seq (.reg [⟨(some 58), .mov, [.t 8], none, 0, 0⟩,
   ⟨(some 59), (.bin .leq), [.t 58, .c (.int .i64 2)], none, 0, 0⟩] false)
 (.cond (.t 59) (.seq (.reg [⟨(some 60), .mov, [.t 5], none, 0, 0⟩,
    ⟨(some 61), (.bin .and), [.t 60, .c (.int .u8 31)], none, 0, 0⟩,
    ⟨(some 62), (.cvi .i32), [.t 61], none, 0, 0⟩,
    ⟨(some 63), (.bin .shl), [.t 62, .c (.int .u64 6)], none, 0, 0⟩,
    ⟨(some 64), .mov, [.t 10], none, 0, 0⟩,
    ⟨(some 65), (.bin .and), [.t 64, .c (.int .u8 63)], none, 0, 0⟩,
    ⟨(some 66), (.cvi .i32), [.t 65], none, 0, 0⟩,
    ⟨(some 67), (.bin .or), [.t 63, .t 66], none, 0, 0⟩,
    ⟨(some 2), .mov, [.t 67], none, 0, 0⟩,
    ⟨(some 3), .mov, [.c (.int .i64 2)], none, 0, 0⟩] false)
  .ret)
  .skip))
 (.seq (.reg [⟨(some 68), .mov, [.t 0], none, 0, 0⟩,
   ⟨(some 69), .ixs, [.t 68, .c (.int .i64 2)], none, 0, 0⟩,
   ⟨(some 11), .mov, [.t 69], none, 0, 0⟩] false)
 (.seq (.seq (.reg [⟨(some 70), .mov, [.t 11], none, 0, 0⟩,
   ⟨(some 71), (.bin .lss), [.t 70, .c (.int .u8 128)], none, 0, 0⟩,
   ⟨(some 72), .mov, [.t 71], none, 0, 0⟩,
   ⟨(some 73), .mov, [.t 11], (some (72, false)), 0, 0⟩,
   ⟨(some 74), (.bin .lss), [.c (.int .u8 191), .t 73], (some (72, false)), 0, 0⟩,
   ⟨(some 75), .pick, [.t 72, .c (.bool true), .t 74], none, 0, 0⟩] false)
 (.cond (.t 75) (.seq (.reg [⟨(some 2), .mov, [.c (.int .i32 65533)], none, 0, 0⟩,
    ⟨(some 3), .mov, [.c (.int .i64 1)], none, 0, 0⟩] false)
  .ret)
  .skip))
 (.seq (.seq (.reg [⟨(some 76), .mov, [.t 8], none, 0, 0⟩,
   ⟨(some 77), (.bin .leq), [.t 76, .c (.int .i64 3)], none, 0, 0⟩] false)
 (.cond (.t 77) (.seq (.reg [⟨(some 78), .mov, [.t 5], none, 0, 0⟩,
    ⟨(some 79), (.bin .and), [.t 78, .c (.int .u8 15)], none, 0, 0⟩,
    ⟨(some 80), (.cvi .i32), [.t 79], none, 0, 0⟩,
    ⟨(some 81), (.bin .shl), [.t 80, .c (.int .u64 12)], none, 0, 0⟩,
    ⟨(some 82), .mov, [.t 10], none, 0, 0⟩,
    ⟨(some 83), (.bin .and), [.t 82, .c (.int .u8 63)], none, 0, 0⟩,
    ⟨(some 84), (.cvi .i32), [.t 83], none, 0, 0⟩,
    ⟨(some 85), (.bin .shl), [.t 84, .c (.int .u64 6)], none, 0, 0⟩,
    ⟨(some 86), (.bin .or), [.t 81, .t 85], none, 0, 0⟩,
    ⟨(some 87), .mov, [.t 11], none, 0, 0⟩,
    ⟨(some 88), (.bin .and), [.t 87, .c (.int .u8 63)], none, 0, 0⟩,
    ⟨(some 89), (.cvi .i32), [.t 88], none, 0, 0⟩,
    ⟨(some 90), (.bin .or), [.t 86, .t 89], none, 0, 0⟩,
    ⟨(some 2), .mov, [.t 90], none, 0, 0⟩,
    ⟨(some 3), .mov, [.c (.int .i64 3)], none, 0, 0⟩] false)
  .ret)
  .skip))
 (.seq (.reg [⟨(some 91), .mov, [.t 0], none, 0, 0⟩,
   ⟨(some 92), .ixs, [.t 91, .c (.int .i64 3)], none, 0, 0⟩,
   ⟨(some 12), .mov, [.t 92], none, 0, 0⟩] false)
 (.seq (.seq (.reg [⟨(some 93), .mov, [.t 12], none, 0, 0⟩,
   ⟨(some 94), (.bin .lss), [.t 93, .c (.int .u8 128)], none, 0, 0⟩,
   ⟨(some 95), .mov, [.t 94], none, 0, 0⟩,
   ⟨(some 96), .mov, [.t 12], (some (95, false)), 0, 0⟩,
   ⟨(some 97), (.bin .lss), [.c (.int .u8 191), .t 96], (some (95, false)), 0, 0⟩,
   ⟨(some 98), .pick, [.t 95, .c (.bool true), .t 97], none, 0, 0⟩] false)
 (.cond (.t 98) (.seq (.reg [⟨(some 2), .mov, [.c (.int .i32 65533)], none, 0, 0⟩,
    ⟨(some 3), .mov, [.c (.int .i64 1)], none, 0, 0⟩] false)
  .ret)
  .skip))
 (.seq (.reg [⟨(some 99), .mov, [.t 5], none, 0, 0⟩,
   ⟨(some 100), (.bin .and), [.t 99, .c (.int .u8 7)], none, 0, 0⟩,
   ⟨(some 101), (.cvi .i32), [.t 100], none, 0, 0⟩,
   ⟨(some 102), (.bin .shl), [.t 101, .c (.int .u64 18)], none, 0, 0⟩,
   ⟨(some 103), .mov, [.t 10], none, 0, 0⟩,
   ⟨(some 104), (.bin .and), [.t 103, .c (.int .u8 63)], none, 0, 0⟩,
   ⟨(some 105), (.cvi .i32), [.t 104], none, 0, 0⟩,
   ⟨(some 106), (.bin .shl), [.t 105, .c (.int .u64 12)], none, 0, 0⟩,
   ⟨(some 107), (.bin .or), [.t 102, .t 106], none, 0, 0⟩,
   ⟨(some 108), .mov, [.t 11], none, 0, 0⟩,
   ⟨(some 109), (.bin .and), [.t 108, .c (.int .u8 63)], none, 0, 0⟩,
   ⟨(some 110), (.cvi .i32), [.t 109], none, 0, 0⟩,
   ⟨(some 111), (.bin .shl), [.t 110, .c (.int .u64 6)], none, 0, 0⟩,
   ⟨(some 112), (.bin .or), [.t 107, .t 111], none, 0, 0⟩,
   ⟨(some 113), .mov, [.t 12], none, 0, 0⟩,
   ⟨(some 114), (.bin .and), [.t 113, .c (.int .u8 63)], none, 0, 0⟩,
   ⟨(some 115), (.cvi .i32), [.t 114], none, 0, 0⟩,
   ⟨(some 116), (.bin .or), [.t 112, .t 115], none, 0, 0⟩,
   ⟨(some 2), .mov, [.t 116], none, 0, 0⟩,
   ⟨(some 3), .mov, [.c (.int .i64 4)], none, 0, 0⟩] false)
 .ret))))))))))))))))))⟩
def cf203M0 : List Bool := [false, false, false, false, false, false, false, false, false, false, false, false, false, false, false, false, false, false, false, false, false, false, false, false, false, false, false, false, false, false, false, false, false, false, false, false, false, false, false, false, false, false, false, false, false, false, false, false, false, false, false, false, false, false, false, false, false, false, false, false, false, false, false, false, false, false, false, false, false, false, false, false, false, false, false, false, false, false, false, false, false, false, false, false, false, false, false, false, false, false, false, false, false, false, false, false, false, false, false, false, false, false, false, false, false, false, false, false, false, false, false, false, false, false, false, false, false, false, false, false, false, false, false, false, false, false, false, false, false, false, false, false, false, false, false, false, false, false, false, false, false, false, false, false, false, false, false, false, false, false, false, false, false, false, false, false, false, false, false, false, false, false, false, false, false, false, false, false, false, false, false, false, false, false, false, false, false, false, false, false, false, false, false, false, false, false, false]
def cf203E0 : List AV := [.top, .top, .top, .top, .top, .top, .top, .top, .top, .top, .top, .top, .top, .top, .top, .top, .top, .top, .top, .top, .top, .top, .top, .top, .top, .top, .top, .top, .top, .top, .top, .top, .top, .top, .top, .top, .top, .top, .top, .top, .top, .top, .top, .top, .top, .top, .top, .top, .top, .top, .top, .top, .top, .top, .top, .top, .top, .top, .top, .top, .top, .top, .top, .top, .top, .top, .top, .top, .top, .top, .top, .top, .top, .top, .top, .top, .top, .top, .top, .top, .top, .top, .top, .top, .top, .top, .top, .top, .top, .top, .top, .top, .top, .top, .top, .top, .top, .top, .top, .top, .top, .top, .top, .top, .top, .top, .top, .top, .top, .top, .top, .top, .top, .top, .top, .top, .top, .top, .top, .top, .top, .top, .top, .top, .top, .top, .top, .top, .top, .top, .top, .top, .top, .top, .top, .top, .top, .top, .top, .top, .top, .top, .top, .top, .top, .top, .top, .top, .top, .top, .top, .top, .top, .top, .top, .top, .top, .top, .top, .top, .top, .top, .top, .top, .top, .top, .top, .top, .top, .top, .top, .top, .top, .top, .top, .top, .top, .top, .top, .top, .top, .top, .top, .top, .top, .top, .top]
def cf203L0 : C :=
 (.seq (.reg [⟨(some 176), .bad, [], none, 0, 0⟩,
   ⟨(some 177), (.ext 0), [.t 176], none, 0, 0⟩] false)
 (.seq (.cond (.t 177) .skip
  (.exit 9))
 (.block 10 (.seq (.reg [⟨(some 178), (.ext 1), [.t 176], none, 0, 0⟩,
    ⟨(some 179), (.ext 2), [.t 176], none, 0, 0⟩,
    ⟨(some 5), .mov, [.t 178], none, 0, 0⟩,
    ⟨(some 6), .mov, [.t 179], none, 0, 0⟩] false)
  (.seq (.reg [⟨(some 180), .mov, [.t 6], none, 0, 0⟩,
    ⟨(some 181), (.bin .eql), [.t 180, .c (.int .i32 65533)], none, 0, 0⟩] false)
  (.cond (.t 181) (.seq (.reg [⟨(some 182), .mov, [.t 5], none, 0, 0⟩,
     ⟨(some 4), .mov, [.t 182], none, 0, 0⟩] false)
   .ret)
   .skip))))))
def cf203 : CF := ⟨2, 187, [.inl 4],
 (.seq (.reg [⟨(some 4), .mov, [.c (.int .i64 0)], none, 0, 0⟩] false)
 (.block 0 (.seq (.reg [⟨(some 161), .mov, [.t 1], none, 0, 0⟩,
    ⟨(some 162), (.bin .leq), [.c (.int .i32 0), .t 161], none, 0, 0⟩,
    ⟨(some 163), .mov, [.t 162], none, 0, 0⟩,
    ⟨(some 164), .mov, [.t 1], (some (163, true)), 0, 0⟩,
    ⟨(some 165), (.bin .lss), [.t 164, .c (.int .i32 128)], (some (163, true)), 0, 0⟩,
    ⟨(some 166), .pick, [.t 163, .t 165, .c (.bool false)], none, 0, 0⟩,
    ⟨(some 160), .mov, [.t 166], none, 0, 0⟩] false)
  (.cond (.t 160) (.seq (.reg [⟨(some 167), .mov, [.t 0], none, 0, 0⟩,
     ⟨(some 168), .mov, [.t 1], none, 0, 0⟩,
     ⟨(some 169), (.cvi .u8), [.t 168], none, 0, 0⟩,
     ⟨(some 170), (.call 217 false false), [.t 167, .t 169], none, 0, 1⟩,
     ⟨(some 4), .mov, [.t 170], none, 0, 0⟩] false)
   .ret)
   (.seq (.reg [⟨(some 172), .mov, [.t 1], none, 0, 0⟩,
     ⟨(some 173), (.bin .eql), [.t 172, .c (.int .i32 65533)], none, 0, 0⟩,
     ⟨(some 171), .mov, [.t 173], none, 0, 0⟩] false)
   (.cond (.t 171) (.seq (.seq (.reg [⟨(some 174), .mov, [.t 0], none, 0, 0⟩,
      ⟨(some 175), .bad, [], none, 0, 0⟩] false)
    (.block 9 (.loop cf203L0 cf203M0)))
    (.seq (.reg [⟨(some 4), .mov, [.c (.int .i64 (-1))], none, 0, 0⟩] false)
    .ret))
    (.seq (.reg [⟨(some 184), .mov, [.t 1], none, 0, 0⟩,
      ⟨(some 185), (.call 218 false false), [.t 184], none, 0, 5⟩,
      ⟨(some 186), (.un .not), [.t 185], none, 0, 0⟩,
      ⟨(some 183), .mov, [.t 186], none, 0, 0⟩] false)
    (.cond (.t 183) (.seq (.reg [⟨(some 4), .mov, [.c (.int .i64 (-1))], none, 0, 0⟩] false)
     .ret)
     .bad))))))))⟩
def cf204 : CF := ⟨1, 6, [.inl 2],
 (.seq (.reg [⟨(some 2), .mov, [.c (.bool false)], none, 0, 0⟩] false)
 (.seq (.reg [⟨(some 3), .mov, [.t 0], none, 0, 0⟩,
   ⟨(some 4), (.bin .and), [.t 3, .c (.int .u8 192)], none, 0, 0⟩,
   ⟨(some 5), (.bin .neq), [.t 4, .c (.int .u8 128)], none, 0, 0⟩,
   ⟨(some 2), .mov, [.t 5], none, 0, 0⟩] false)
 .ret))⟩
def cf205M0 : List Bool := [true, true, false, false, false, false, false, true, true, false, false, false, false, false, false, false, false, false, false]
def cf205E0 (t0 t1 t7 t8 : AV) : List AV := [t0, t1, .top, .top, .top, .top, .top, t7, t8, .top, .top, .top, .top, .top, .top, .top, .top, .top, .top]
def cf205L0 : C :=
 (.seq (.reg [⟨(some 9), (.bin .lss), [.t 8, .t 7], none, 0, 0⟩] false)
 (.seq (.cond (.t 9) .skip
  (.exit 0))
 (.seq (.block 1 (.seq (.reg [⟨(some 10), .mov, [.t 8], none, 0, 0⟩,
    ⟨(some 5), .mov, [.t 10], none, 0, 0⟩] false)
  (.seq (.reg [⟨(some 11), .mov, [.t 1], none, 0, 0⟩,
    ⟨(some 12), .mov, [.t 0], none, 0, 0⟩,
    ⟨(some 13), .mov, [.t 5], none, 0, 0⟩,
    ⟨(some 14), (.iad 2 true none), [.t 12, .t 13], none, 0, 0⟩,
    ⟨(some 15), (.load 2 true), [.t 14], none, 0, 0⟩,
    ⟨(some 16), (.callv false false), [.t 11, .t 15], none, 0, 1⟩] false)
  (.cond (.t 16) (.seq (.reg [⟨(some 17), .mov, [.t 5], none, 0, 0⟩,
     ⟨(some 4), .mov, [.t 17], none, 0, 0⟩] false)
   .ret)
   .skip))))
 (.reg [⟨(some 18), (.bin .add), [.t 8, .c (.int .i64 1)], none, 0, 0⟩,
   ⟨(some 8), .mov, [.t 18], none, 0, 0⟩] false))))
def cf205 : CF := ⟨2, 19, [.inl 4],
 (.seq (.reg [⟨(some 4), .mov, [.c (.int .i64 0)], none, 0, 0⟩] false)
 (.seq (.seq (.reg [⟨(some 6), .mov, [.t 0], none, 0, 0⟩,
   ⟨(some 7), (.len 1), [.t 6], none, 0, 0⟩,
   ⟨(some 8), .mov, [.c (.int .i64 0)], none, 0, 0⟩] false)
 (.block 0 (.loop cf205L0 cf205M0)))
 (.seq (.reg [⟨(some 4), .mov, [.c (.int .i64 (-1))], none, 0, 0⟩] false)
 .ret)))⟩
def cf206 : CF := ⟨7, 68, [.inl 14],
 (.seq (.reg [⟨(some 7), .box, [.t 0], none, 0, 1⟩,
   ⟨(some 14), .mov, [.c (.bool false)], none, 0, 0⟩] false)
 (.seq (.reg [⟨(some 15), .mov, [.t 1], none, 0, 0⟩,
   ⟨(some 16), .mov, [.t 15], none, 0, 0⟩,
   ⟨(some 17), (.fad 1 1 false), [.t 7], (some (16, false)), 0, 0⟩,
   ⟨(some 18), (.load 1 false), [.t 17], (some (16, false)), 0, 0⟩,
   ⟨(some 19), (.bin .eql), [.t 18, .c (.int .i64 0)], (some (16, false)), 0, 0⟩,
   ⟨(some 20), .pick, [.t 16, .c (.bool true), .t 19], none, 0, 0⟩,
   ⟨(some 21), .mov, [.t 20], none, 0, 0⟩,
   ⟨(some 22), .mov, [.t 2], (some (21, true)), 0, 0⟩,
   ⟨(some 23), .mov, [.t 22], (some (21, true)), 0, 0⟩,
   ⟨(some 24), (.fad 2 1 false), [.t 7], (some (23, false)), 0, 0⟩,
   ⟨(some 25), (.load 1 false), [.t 24], (some (23, false)), 0, 0⟩,
   ⟨(some 26), (.bin .eql), [.t 25, .c (.int .i64 0)], (some (23, false)), 0, 0⟩,
   ⟨(some 27), .pick, [.t 23, .c (.bool true), .t 26], (some (21, true)), 0, 0⟩,
   ⟨(some 28), .pick, [.t 21, .t 27, .c (.bool false)], none, 0, 0⟩,
   ⟨(some 29), .mov, [.t 28], none, 0, 0⟩,
   ⟨(some 30), .mov, [.t 3], (some (29, true)), 0, 0⟩,
   ⟨(some 31), .mov, [.t 30], (some (29, true)), 0, 0⟩,
   ⟨(some 32), (.fad 3 1 false), [.t 7], (some (31, false)), 0, 0⟩,
   ⟨(some 33), (.load 1 false), [.t 32], (some (31, false)), 0, 0⟩,
   ⟨(some 34), (.bin .eql), [.t 33, .c (.str [])], (some (31, false)), 0, 0⟩,
   ⟨(some 35), .pick, [.t 31, .c (.bool true), .t 34], (some (29, true)), 0, 0⟩,
   ⟨(some 36), .pick, [.t 29, .t 35, .c (.bool false)], none, 0, 0⟩,
   ⟨(some 37), .mov, [.t 36], none, 0, 0⟩,
   ⟨(some 38), .mov, [.t 4], (some (37, true)), 0, 0⟩,
   ⟨(some 39), .mov, [.t 38], (some (37, true)), 0, 0⟩,
   ⟨(some 40), (.fad 4 1 false), [.t 7], (some (39, false)), 0, 0⟩,
   ⟨(some 41), (.load 1 false), [.t 40], (some (39, false)), 0, 0⟩,
   ⟨(some 42), (.len 1), [.t 41], (some (39, false)), 0, 0⟩,
   ⟨(some 43), (.bin .eql), [.t 42, .c (.int .i64 0)], (some (39, false)), 0, 0⟩,
   ⟨(some 44), .pick, [.t 39, .c (.bool true), .t 43], (some (37, true)), 0, 0⟩,
   ⟨(some 45), .pick, [.t 37, .t 44, .c (.bool false)], none, 0, 0⟩,
   ⟨(some 46), .mov, [.t 45], none, 0, 0⟩,
   ⟨(some 47), .mov, [.t 5], (some (46, true)), 0, 0⟩,
   ⟨(some 48), .mov, [.t 47], (some (46, true)), 0, 0⟩,
   ⟨(some 49), (.fad 5 1 false), [.t 7], (some (48, false)), 0, 0⟩,
   ⟨(some 50), (.load 1 false), [.t 49], (some (48, false)), 0, 0⟩,
   ⟨(some 51), (.un .not), [.t 50], (some (48, false)), 0, 0⟩,
   ⟨(some 52), .mov, [.t 51], (some (48, false)), 0, 0⟩,
   ⟨(some 53), (.fad 6 1 false), [.t 7], (some (52, true)), 0, 0⟩,
   ⟨(some 54), (.load 1 false), [.t 53], (some (52, true)), 0, 0⟩,
   ⟨(some 55), (.bin .eql), [.t 54, .c (.int .i64 0)], (some (52, true)), 0, 0⟩,
   ⟨(some 56), .pick, [.t 52, .t 55, .c (.bool false)], (some (48, false)), 0, 0⟩,
   ⟨(some 57), .pick, [.t 48, .c (.bool true), .t 56], (some (46, true)), 0, 0⟩,
   ⟨(some 58), .pick, [.t 46, .t 57, .c (.bool false)], none, 0, 0⟩,
   ⟨(some 59), .mov, [.t 58], none, 0, 0⟩,
   ⟨(some 60), .mov, [.t 6], (some (59, true)), 0, 0⟩,
   ⟨(some 61), .mov, [.t 60], (some (59, true)), 0, 0⟩,
   ⟨(some 62), (.fad 7 1 false), [.t 7], (some (61, false)), 0, 0⟩,
   ⟨(some 63), (.load 1 false), [.t 62], (some (61, false)), 0, 0⟩,
   ⟨(some 64), (.len 1), [.t 63], (some (61, false)), 0, 0⟩,
   ⟨(some 65), (.bin .eql), [.t 64, .c (.int .i64 0)], (some (61, false)), 0, 0⟩,
   ⟨(some 66), .pick, [.t 61, .c (.bool true), .t 65], (some (59, true)), 0, 0⟩,
   ⟨(some 67), .pick, [.t 59, .t 66, .c (.bool false)], none, 0, 0⟩,
   ⟨(some 14), .mov, [.t 67], none, 0, 0⟩] false)
 .ret))⟩
def cf207 : CF := ⟨2, 51, [.inl 4],
 (.seq (.reg [⟨(some 2), .box, [.t 0], none, 0, 1⟩,
   ⟨(some 4), .mov, [.c (.bool false)], none, 0, 0⟩] false)
 (.seq (.seq (.reg [⟨(some 5), (.load 9 true), [.t 2], none, 0, 0⟩,
   ⟨(some 6), (.call 206 false false), [.t 5, .c (.bool false), .c (.bool true), .c (.bool false), .c (.bool true), .c (.bool true), .c (.bool false)], none, 0, 5⟩,
   ⟨(some 7), (.un .not), [.t 6], none, 0, 0⟩,
   ⟨(some 8), .mov, [.t 7], none, 0, 0⟩,
   ⟨(some 9), (.fad 2 1 false), [.t 2], (some (8, false)), 0, 0⟩,
   ⟨(some 10), (.load 1 false), [.t 9], (some (8, false)), 0, 0⟩,
   ⟨(some 11), (.bin .lss), [.t 10, .c (.int .i64 0)], (some (8, false)), 0, 0⟩,
   ⟨(some 12), .pick, [.t 8, .c (.bool true), .t 11], none, 0, 0⟩,
   ⟨(some 13), .mov, [.t 12], none, 0, 0⟩,
   ⟨(some 14), (.fad 2 1 false), [.t 2], (some (13, false)), 0, 0⟩,
   ⟨(some 15), (.load 1 false), [.t 14], (some (13, false)), 0, 0⟩,
   ⟨(some 16), .mov, [.t 1], (some (13, false)), 0, 0⟩,
   ⟨(some 17), (.bin .geq), [.t 15, .t 16], (some (13, false)), 0, 0⟩,
   ⟨(some 18), .pick, [.t 13, .c (.bool true), .t 17], none, 0, 0⟩,
   ⟨(some 19), .mov, [.t 18], none, 0, 0⟩,
   ⟨(some 20), (.fad 6 1 false), [.t 2], (some (19, false)), 0, 0⟩,
   ⟨(some 21), (.load 1 false), [.t 20], (some (19, false)), 0, 0⟩,
   ⟨(some 22), (.bin .lss), [.t 21, .c (.int .i64 0)], (some (19, false)), 0, 0⟩,
   ⟨(some 23), .pick, [.t 19, .c (.bool true), .t 22], none, 0, 0⟩] false)
 (.cond (.t 23) (.seq (.reg [⟨(some 4), .mov, [.c (.bool false)], none, 0, 0⟩] false)
  .ret)
  .skip))
 (.seq (.seq (.reg [⟨(some 24), (.fad 5 1 false), [.t 2], none, 0, 0⟩,
   ⟨(some 25), (.load 1 false), [.t 24], none, 0, 0⟩] false)
 (.cond (.t 25) (.seq (.reg [⟨(some 26), (.fad 4 1 false), [.t 2], none, 0, 0⟩,
    ⟨(some 27), (.load 1 false), [.t 26], none, 0, 0⟩,
    ⟨(some 28), (.len 1), [.t 27], none, 0, 0⟩,
    ⟨(some 29), (.bin .leq), [.t 28, .c (.int .i64 5)], none, 0, 0⟩,
    ⟨(some 30), .mov, [.t 29], none, 0, 0⟩,
    ⟨(some 31), (.fad 8 1 false), [.t 2], (some (30, true)), 0, 0⟩,
    ⟨(some 32), (.load 1 false), [.t 31], (some (30, true)), 0, 0⟩,
    ⟨(some 33), (.len 1), [.t 32], (some (30, true)), 0, 0⟩,
    ⟨(some 34), (.bin .eql), [.t 33, .c (.int .i64 1)], (some (30, true)), 0, 0⟩,
    ⟨(some 35), .pick, [.t 30, .t 34, .c (.bool false)], none, 0, 0⟩,
    ⟨(some 4), .mov, [.t 35], none, 0, 0⟩] false)
  .ret)
  .skip))
 (.seq (.reg [⟨(some 36), (.fad 4 1 false), [.t 2], none, 0, 0⟩,
   ⟨(some 37), (.load 1 false), [.t 36], none, 0, 0⟩,
   ⟨(some 38), (.len 1), [.t 37], none, 0, 0⟩,
   ⟨(some 39), (.bin .leq), [.t 38, .c (.int .i64 6)], none, 0, 0⟩,
   ⟨(some 40), .mov, [.t 39], none, 0, 0⟩,
   ⟨(some 41), (.fad 8 1 false), [.t 2], (some (40, true)), 0, 0⟩,
   ⟨(some 42), (.load 1 false), [.t 41], (some (40, true)), 0, 0⟩,
   ⟨(some 43), (.len 1), [.t 42], (some (40, true)), 0, 0⟩,
   ⟨(some 44), (.bin .eql), [.t 43, .c (.int .i64 0)], (some (40, true)), 0, 0⟩,
   ⟨(some 45), .pick, [.t 40, .t 44, .c (.bool false)], none, 0, 0⟩,
   ⟨(some 46), .mov, [.t 45], none, 0, 0⟩,
   ⟨(some 47), (.fad 6 1 false), [.t 2], (some (46, true)), 0, 0⟩,
   ⟨(some 48), (.load 1 false), [.t 47], (some (46, true)), 0, 0⟩,
   ⟨(some 49), (.bin .eql), [.t 48, .c (.int .i64 0)], (some (46, true)), 0, 0⟩,
   ⟨(some 50), .pick, [.t 46, .t 49, .c (.bool false)], none, 0, 0⟩,
   ⟨(some 4), .mov, [.t 50], none, 0, 0⟩] false)
 .ret))))⟩
def cf208 : CF := ⟨2, 8, [.inl 3],
 (.seq (.reg [⟨(some 3), .mov, [.c (.bool false)], none, 0, 0⟩] false)
 (.seq (.reg [⟨(some 4), (.load 1 false), [.t 1], none, 0, 0⟩,
   ⟨(some 5), .mov, [.t 0], none, 0, 0⟩,
   ⟨(some 6), (.call 98 false false), [.t 4, .t 5], none, 0, 1⟩,
   ⟨(some 7), (.un .not), [.t 6], none, 0, 0⟩,
   ⟨(some 3), .mov, [.t 7], none, 0, 0⟩] false)
 .ret))⟩
def cf209 : CF := ⟨2, 27, [.inl 4],
 (.seq (.reg [⟨(some 4), .mov, [.c (.sl true [] true)], none, 0, 0⟩] false)
 (.seq (.seq (.reg [⟨(some 5), .mov, [.t 1], none, 0, 0⟩,
   ⟨(some 6), (.bin .lss), [.t 5, .c (.int .i64 0)], none, 0, 0⟩] false)
 (.cond (.t 6) (.reg [⟨(some 7), .mki, [.c (.str [99, 97, 110, 110, 111, 116, 32, 98, 101, 32, 110, 101, 103, 97, 116, 105, 118, 101])], none, 0, 0⟩,
    ⟨none, .bad, [], none, 0, 0⟩] false)
  .skip))
 (.seq (.seq (.reg [⟨(some 8), .mov, [.t 1], none, 0, 0⟩,
   ⟨(some 9), .mov, [.t 0], none, 0, 0⟩,
   ⟨(some 10), .cap, [.t 9], none, 0, 0⟩,
   ⟨(some 11), .mov, [.t 0], none, 0, 0⟩,
   ⟨(some 12), (.len 1), [.t 11], none, 0, 0⟩,
   ⟨(some 13), (.bin .sub), [.t 10, .t 12], none, 0, 0⟩,
   ⟨(some 14), (.bin .sub), [.t 8, .t 13], none, 0, 0⟩,
   ⟨(some 1), .mov, [.t 14], none, 0, 0⟩] false)
 (.seq (.reg [⟨(some 15), .mov, [.t 1], none, 0, 0⟩,
   ⟨(some 16), (.bin .gtr), [.t 15, .c (.int .i64 0)], none, 0, 0⟩] false)
 (.cond (.t 16) (.reg [⟨(some 17), .mov, [.t 0], none, 0, 0⟩,
    ⟨(some 18), .mov, [.t 0], none, 0, 0⟩,
    ⟨(some 19), .cap, [.t 18], none, 0, 0⟩,
    ⟨(some 20), (.slc 1 false true false), [.t 17, .t 19], none, 0, 0⟩,
    ⟨(some 21), .mov, [.t 1], none, 0, 0⟩,
    ⟨(some 22), (.apz 1 false 16 [(.str [])]), [.t 20, .t 21], none, 0, 1⟩,
    ⟨(some 23), .mov, [.t 0], none, 0, 0⟩,
    ⟨(some 24), (.len 1), [.t 23], none, 0, 0⟩,
    ⟨(some 25), (.slc 1 false true false), [.t 22, .t 24], none, 0, 0⟩,
    ⟨(some 0), .mov, [.t 25], none, 0, 0⟩] false)
  .skip)))
 (.seq (.reg [⟨(some 26), .mov, [.t 0], none, 0, 0⟩,
   ⟨(some 4), .mov, [.t 26], none, 0, 0⟩] false)
 .ret))))⟩
def cf217 : CF := ⟨2, 8, [.inl 4],
 (.seq (.reg [⟨(some 4), .mov, [.c (.int .i64 0)], none, 0, 0⟩] false)
 (.seq (.reg [⟨(some 5), .mov, [.t 0], none, 0, 0⟩,
   ⟨(some 6), .mov, [.t 1], none, 0, 0⟩,
   ⟨(some 7), (.call 223 false false), [.t 5, .t 6], none, 0, 1⟩,
   ⟨(some 4), .mov, [.t 7], none, 0, 0⟩] false)
 .ret))⟩
def cf218 : CF := ⟨1, 17, [.inl 2],
 (.seq (.reg [⟨(some 2), .mov, [.c (.bool false)], none, 0, 0⟩] false)
 (.seq (.block 0 (.seq (.reg [⟨(some 4), .mov, [.t 0], none, 0, 0⟩,
    ⟨(some 5), (.bin .leq), [.c (.int .i32 0), .t 4], none, 0, 0⟩,
    ⟨(some 6), .mov, [.t 5], none, 0, 0⟩,
    ⟨(some 7), .mov, [.t 0], (some (6, true)), 0, 0⟩,
    ⟨(some 8), (.bin .lss), [.t 7, .c (.int .i32 55296)], (some (6, true)), 0, 0⟩,
    ⟨(some 9), .pick, [.t 6, .t 8, .c (.bool false)], none, 0, 0⟩,
    ⟨(some 3), .mov, [.t 9], none, 0, 0⟩] false)
  (.cond (.t 3) (.seq (.reg [⟨(some 2), .mov, [.c (.bool true)], none, 0, 0⟩] false)
   .ret)
   (.seq (.reg [⟨(some 11), .mov, [.t 0], none, 0, 0⟩,
     ⟨(some 12), (.bin .lss), [.c (.int .i32 57343), .t 11], none, 0, 0⟩,
     ⟨(some 13), .mov, [.t 12], none, 0, 0⟩,
     ⟨(some 14), .mov, [.t 0], (some (13, true)), 0, 0⟩,
     ⟨(some 15), (.bin .leq), [.t 14, .c (.int .i32 1114111)], (some (13, true)), 0, 0⟩,
     ⟨(some 16), .pick, [.t 13, .t 15, .c (.bool false)], none, 0, 0⟩,
     ⟨(some 10), .mov, [.t 16], none, 0, 0⟩] false)
   (.cond (.t 10) (.seq (.reg [⟨(some 2), .mov, [.c (.bool true)], none, 0, 0⟩] false)
    .ret)
    .skip)))))
 (.seq (.reg [⟨(some 2), .mov, [.c (.bool false)], none, 0, 0⟩] false)
 .ret)))⟩
def cf223 : CF := ⟨2, 8, [.inl 4],
 (.seq (.reg [⟨(some 4), .mov, [.c (.int .i64 0)], none, 0, 0⟩] false)
 (.seq (.reg [⟨(some 5), .mov, [.t 0], none, 0, 0⟩,
   ⟨(some 6), .mov, [.t 1], none, 0, 0⟩,
   ⟨(some 7), (.call 224 false false), [.t 5, .t 6], none, 0, 1⟩,
   ⟨(some 4), .mov, [.t 7], none, 0, 0⟩] false)
 .ret))⟩
end Go.Tev
end
