/-
  The code of the numbers' texts.
-/
import Derived.Test.YtgejbndgakgfnaaGreatDoorGC
namespace Go.Proofs.YtgejbndgakgfnaaGreatDoor
open Go Go.RowKit Ab
set_option linter.unusedSimpArgs false
set_option linter.unusedVariables false
set_option maxHeartbeats 10000000
def a68 : AC := .seq (.reg [qr 4 (.mv (.k (.s [])))])
 (.seq (.reg [qm 11 0,
 qm 12 1,
 qr 13 (.cvt .u64 (.t 12)),
 qr 14 (.call 88 [(1, (.t 11)), (1, (.t 13))]),
 qm 10 14,
 qr 15 (.ext (.t 10) 0),
 qr 16 (.ext (.t 10) 1),
 qm 5 15,
 qm 6 16])
 (.seq (.seq (.reg [qm 17 5,
 qr 18 (.len (.t 17)),
 qr 19 (.bin .eql (.t 18) (.k (.i .i64 0)))])
 (.cond (.t 19)
 (.seq (.reg [qr 20 (.asl 36 1 (.k (.ip tab_0 0)) none (some (.k (.i .i64 1)))),
 qr 21 (.pur .b2s [(.t 20)]),
 qm 4 21])
 (.ret))
 (.skip)))
 (.seq (.reg [qm 22 5,
 qr 23 (.len (.t 22)),
 qr 24 (.mk 5 1 1 [(.i .u8 0)] (.t 23) (.t 23)),
 qm 7 24])
 (.seq (.seq (.reg [qm 25 5,
 qr 26 (.len (.t 25)),
 qr 27 (.mv (.k (.i .i64 0)))])
 (.blk 0
 (.loop
 (.seq (.reg [qr 28 (.bin .lss (.t 27) (.t 26))])
 (.seq (.cond (.t 28)
 (.skip)
 (.exit 0))
 (.seq (.blk 1
 (.seq (.reg [qm 29 27,
 qr 30 (.idx 1 (.t 25) (.t 27)),
 qr 31 (.ld false 1 (.t 30)),
 qm 8 29,
 qm 9 31])
 (.reg [qm 32 7,
 qm 33 5,
 qr 34 (.len (.t 33)),
 qr 35 (.bin .sub (.t 34) (.k (.i .i64 1))),
 qm 36 8,
 qr 37 (.bin .sub (.t 35) (.t 36)),
 qm 38 9,
 qr 39 (.aix 36 1 (.k (.ip tab_0 0)) (.t 38)),
 qr 40 (.ld false 1 (.t 39)),
 qr 41 (.idx 1 (.t 32) (.t 37)),
 qn (.st 1 (.t 41) (.t 40))])))
 (.reg [qr 42 (.bin .add (.t 27) (.k (.i .i64 1))),
 qm 27 42])))))))
 (.seq (.reg [qm 43 7,
 qr 44 (.pur .b2s [(.t 43)]),
 qm 4 44])
 (.ret))))))
def a52 : AC := .seq (.reg [qr 2 (.mv (.k (.s [])))])
 (.seq (.reg [qm 3 0,
 qr 4 (.call 68 [(1, (.t 3)), (1, (.k (.i .i64 10)))]),
 qm 2 4])
 (.ret))
def a51 : AC := .seq (.reg [qr 1 (.bx 25 (.t 0)),
 qr 2 (.mv (.k (.s [])))])
 (.seq (.reg [qr 4 (.ld true 2 (.t 1)),
 qr 5 (.call 42 [(1, (.t 4))]),
 qr 3 (.al 25 [(.b false), (.l 1 [])]),
 qn (.st 2 (.t 3) (.t 5))])
 (.seq (.seq (.reg [qr 6 (.fad 0 (.t 3)),
 qr 7 (.ld false 1 (.t 6))])
 (.cond (.t 7)
 (.seq (.reg [qr 8 (.fad 1 (.t 3)),
 qr 9 (.ld false 1 (.t 8)),
 qr 10 (.call 52 [(1, (.t 9))]),
 qr 11 (.bin .add (.k (.s [45])) (.t 10)),
 qm 2 11])
 (.ret))
 (.skip)))
 (.seq (.reg [qr 12 (.fad 1 (.t 3)),
 qr 13 (.ld false 1 (.t 12)),
 qr 14 (.call 52 [(1, (.t 13))]),
 qm 2 14])
 (.ret))))
end Go.Proofs.YtgejbndgakgfnaaGreatDoor
