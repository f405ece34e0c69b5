/-
  div.Digits: digits to any base.
-/
import Derived.Test.YtdaedplbhpiacaaP1
import Derived.Test.YtdaedplbhpiacaaGG
namespace Go.Proofs.Ytdaedplbhpiacaa
open Go Go.RowKit Ab
set_option linter.unusedSimpArgs false
set_option linter.unusedVariables false
set_option maxHeartbeats 10000000
def a12 : AC := .seq (.reg [qr 4 (.mv (.k .nl)),
 qr 5 (.mv (.k (.i .i64 0)))])
 (.seq (.seq (.reg [qm 11 1,
 qr 12 (.bin .lss (.t 11) (.k (.i .u64 2)))])
 (.cond (.t 12)
 (.seq (.reg [qr 4 (.mv (.k .nl)),
 qr 5 (.mv (.k (.i .i64 3)))])
 (.ret))
 (.skip)))
 (.seq (.reg [qr 6 (.mv (.k .nl))])
 (.seq (.seq (.reg [qm 13 0,
 qr 14 (.call 28 [(1, (.t 13))]),
 qm 7 14])
 (.blk 0
 (.loop
 (.seq (.seq (.reg [qm 15 7,
 qr 16 (.len (.t 15)),
 qr 17 (.bin .gtr (.t 16) (.k (.i .i64 0)))])
 (.cond (.t 17)
 (.skip)
 (.exit 0)))
 (.blk 1
 (.seq (.reg [qm 19 7,
 qm 20 1,
 qr 21 (.call 10 [(1, (.t 19)), (1, (.t 20))]),
 qm 18 21,
 qr 22 (.ext (.t 18) 0),
 qr 23 (.ext (.t 18) 1),
 qr 24 (.ext (.t 18) 2),
 qm 8 22,
 qm 9 23,
 qm 10 24])
 (.seq (.seq (.reg [qm 25 10,
 qr 26 (.bin .neq (.t 25) (.k (.i .i64 0)))])
 (.cond (.t 26)
 (.seq (.reg [qm 27 10,
 qr 4 (.mv (.k .nl)),
 qm 5 27])
 (.ret))
 (.skip)))
 (.seq (.reg [qm 28 6,
 qm 29 9,
 qr 30 (.bsl 24 1 1 [(.i .u64 0)] [(0, (.t 29))]),
 qr 31 (.app 24 1 8 (.t 28) (.t 30)),
 qm 6 31])
 (.reg [qm 32 8,
 qm 7 32])))))))))
 (.seq (.reg [qm 33 6,
 qm 4 33,
 qr 5 (.mv (.k (.i .i64 0)))])
 (.ret)))))
def dgD (u b : Nat) : List Nat := if b < 2 then [] else dg b u
def dgE (b : Nat) : Int := if b < 2 then 3 else 0
end Go.Proofs.Ytdaedplbhpiacaa
