/- The law LawCanonical: its walk and its proof, part 2 of 8. -/
import Derived.Test.YtlcibkbpppijdaaDoorYLawCanonical0
namespace Go.Proofs.YtlcibkbpppijdaaDoor.X
section
open Go.RowKit Go.Proofs.YtlcibkbpppijdaaDoorW.PrintWords Go.Proofs.YtlcibkbpppijdaaDoorW.PrintLast Go.Proofs.YtlcibkbpppijdaaDoorW.PrintMore
attribute [local go_sem] max2_int min2_int max_two min_two max_three min_three max_four min_four   -- for this text's walks alone
set_option linter.unusedVariables false
set_option linter.unusedSimpArgs false
def value_date.f (a0 : Int) : Option (Int × Int × Int) := (value_floor.f (wrap64 (a0 + 719468)) 146097).bind fun t101 => (if (wrap64 ((wrap64 (Int.tdiv (wrap64 ((wrap64 (5 * (wrap64 ((wrap64 ((wrap64 (a0 + 719468)) - (wrap64 (t101 * 146097)))) - (wrap64 ((wrap64 ((wrap64 (365 * (wrap64 (Int.tdiv (wrap64 ((wrap64 ((wrap64 ((wrap64 ((wrap64 (a0 + 719468)) - (wrap64 (t101 * 146097)))) - (wrap64 (Int.tdiv (wrap64 ((wrap64 (a0 + 719468)) - (wrap64 (t101 * 146097)))) 1460)))) + (wrap64 (Int.tdiv (wrap64 ((wrap64 (a0 + 719468)) - (wrap64 (t101 * 146097)))) 36524)))) - (wrap64 (Int.tdiv (wrap64 ((wrap64 (a0 + 719468)) - (wrap64 (t101 * 146097)))) 146096)))) 365)))) + (wrap64 (Int.tdiv (wrap64 (Int.tdiv (wrap64 ((wrap64 ((wrap64 ((wrap64 ((wrap64 (a0 + 719468)) - (wrap64 (t101 * 146097)))) - (wrap64 (Int.tdiv (wrap64 ((wrap64 (a0 + 719468)) - (wrap64 (t101 * 146097)))) 1460)))) + (wrap64 (Int.tdiv (wrap64 ((wrap64 (a0 + 719468)) - (wrap64 (t101 * 146097)))) 36524)))) - (wrap64 (Int.tdiv (wrap64 ((wrap64 (a0 + 719468)) - (wrap64 (t101 * 146097)))) 146096)))) 365)) 4)))) - (wrap64 (Int.tdiv (wrap64 (Int.tdiv (wrap64 ((wrap64 ((wrap64 ((wrap64 ((wrap64 (a0 + 719468)) - (wrap64 (t101 * 146097)))) - (wrap64 (Int.tdiv (wrap64 ((wrap64 (a0 + 719468)) - (wrap64 (t101 * 146097)))) 1460)))) + (wrap64 (Int.tdiv (wrap64 ((wrap64 (a0 + 719468)) - (wrap64 (t101 * 146097)))) 36524)))) - (wrap64 (Int.tdiv (wrap64 ((wrap64 (a0 + 719468)) - (wrap64 (t101 * 146097)))) 146096)))) 365)) 100)))))))) + 2)) 153)) + 3)) > 12 then (some (wrap64 ((wrap64 ((wrap64 (Int.tdiv (wrap64 ((wrap64 ((wrap64 ((wrap64 ((wrap64 (a0 + 719468)) - (wrap64 (t101 * 146097)))) - (wrap64 (Int.tdiv (wrap64 ((wrap64 (a0 + 719468)) - (wrap64 (t101 * 146097)))) 1460)))) + (wrap64 (Int.tdiv (wrap64 ((wrap64 (a0 + 719468)) - (wrap64 (t101 * 146097)))) 36524)))) - (wrap64 (Int.tdiv (wrap64 ((wrap64 (a0 + 719468)) - (wrap64 (t101 * 146097)))) 146096)))) 365)) + (wrap64 (t101 * 400)))) + 1), wrap64 ((wrap64 ((wrap64 (Int.tdiv (wrap64 ((wrap64 (5 * (wrap64 ((wrap64 ((wrap64 (a0 + 719468)) - (wrap64 (t101 * 146097)))) - (wrap64 ((wrap64 ((wrap64 (365 * (wrap64 (Int.tdiv (wrap64 ((wrap64 ((wrap64 ((wrap64 ((wrap64 (a0 + 719468)) - (wrap64 (t101 * 146097)))) - (wrap64 (Int.tdiv (wrap64 ((wrap64 (a0 + 719468)) - (wrap64 (t101 * 146097)))) 1460)))) + (wrap64 (Int.tdiv (wrap64 ((wrap64 (a0 + 719468)) - (wrap64 (t101 * 146097)))) 36524)))) - (wrap64 (Int.tdiv (wrap64 ((wrap64 (a0 + 719468)) - (wrap64 (t101 * 146097)))) 146096)))) 365)))) + (wrap64 (Int.tdiv (wrap64 (Int.tdiv (wrap64 ((wrap64 ((wrap64 ((wrap64 ((wrap64 (a0 + 719468)) - (wrap64 (t101 * 146097)))) - (wrap64 (Int.tdiv (wrap64 ((wrap64 (a0 + 719468)) - (wrap64 (t101 * 146097)))) 1460)))) + (wrap64 (Int.tdiv (wrap64 ((wrap64 (a0 + 719468)) - (wrap64 (t101 * 146097)))) 36524)))) - (wrap64 (Int.tdiv (wrap64 ((wrap64 (a0 + 719468)) - (wrap64 (t101 * 146097)))) 146096)))) 365)) 4)))) - (wrap64 (Int.tdiv (wrap64 (Int.tdiv (wrap64 ((wrap64 ((wrap64 ((wrap64 ((wrap64 (a0 + 719468)) - (wrap64 (t101 * 146097)))) - (wrap64 (Int.tdiv (wrap64 ((wrap64 (a0 + 719468)) - (wrap64 (t101 * 146097)))) 1460)))) + (wrap64 (Int.tdiv (wrap64 ((wrap64 (a0 + 719468)) - (wrap64 (t101 * 146097)))) 36524)))) - (wrap64 (Int.tdiv (wrap64 ((wrap64 (a0 + 719468)) - (wrap64 (t101 * 146097)))) 146096)))) 365)) 100)))))))) + 2)) 153)) + 3)) - 12), wrap64 ((wrap64 ((wrap64 ((wrap64 ((wrap64 (a0 + 719468)) - (wrap64 (t101 * 146097)))) - (wrap64 ((wrap64 ((wrap64 (365 * (wrap64 (Int.tdiv (wrap64 ((wrap64 ((wrap64 ((wrap64 ((wrap64 (a0 + 719468)) - (wrap64 (t101 * 146097)))) - (wrap64 (Int.tdiv (wrap64 ((wrap64 (a0 + 719468)) - (wrap64 (t101 * 146097)))) 1460)))) + (wrap64 (Int.tdiv (wrap64 ((wrap64 (a0 + 719468)) - (wrap64 (t101 * 146097)))) 36524)))) - (wrap64 (Int.tdiv (wrap64 ((wrap64 (a0 + 719468)) - (wrap64 (t101 * 146097)))) 146096)))) 365)))) + (wrap64 (Int.tdiv (wrap64 (Int.tdiv (wrap64 ((wrap64 ((wrap64 ((wrap64 ((wrap64 (a0 + 719468)) - (wrap64 (t101 * 146097)))) - (wrap64 (Int.tdiv (wrap64 ((wrap64 (a0 + 719468)) - (wrap64 (t101 * 146097)))) 1460)))) + (wrap64 (Int.tdiv (wrap64 ((wrap64 (a0 + 719468)) - (wrap64 (t101 * 146097)))) 36524)))) - (wrap64 (Int.tdiv (wrap64 ((wrap64 (a0 + 719468)) - (wrap64 (t101 * 146097)))) 146096)))) 365)) 4)))) - (wrap64 (Int.tdiv (wrap64 (Int.tdiv (wrap64 ((wrap64 ((wrap64 ((wrap64 ((wrap64 (a0 + 719468)) - (wrap64 (t101 * 146097)))) - (wrap64 (Int.tdiv (wrap64 ((wrap64 (a0 + 719468)) - (wrap64 (t101 * 146097)))) 1460)))) + (wrap64 (Int.tdiv (wrap64 ((wrap64 (a0 + 719468)) - (wrap64 (t101 * 146097)))) 36524)))) - (wrap64 (Int.tdiv (wrap64 ((wrap64 (a0 + 719468)) - (wrap64 (t101 * 146097)))) 146096)))) 365)) 100)))))) - (wrap64 (Int.tdiv (wrap64 ((wrap64 (153 * (wrap64 (Int.tdiv (wrap64 ((wrap64 (5 * (wrap64 ((wrap64 ((wrap64 (a0 + 719468)) - (wrap64 (t101 * 146097)))) - (wrap64 ((wrap64 ((wrap64 (365 * (wrap64 (Int.tdiv (wrap64 ((wrap64 ((wrap64 ((wrap64 ((wrap64 (a0 + 719468)) - (wrap64 (t101 * 146097)))) - (wrap64 (Int.tdiv (wrap64 ((wrap64 (a0 + 719468)) - (wrap64 (t101 * 146097)))) 1460)))) + (wrap64 (Int.tdiv (wrap64 ((wrap64 (a0 + 719468)) - (wrap64 (t101 * 146097)))) 36524)))) - (wrap64 (Int.tdiv (wrap64 ((wrap64 (a0 + 719468)) - (wrap64 (t101 * 146097)))) 146096)))) 365)))) + (wrap64 (Int.tdiv (wrap64 (Int.tdiv (wrap64 ((wrap64 ((wrap64 ((wrap64 ((wrap64 (a0 + 719468)) - (wrap64 (t101 * 146097)))) - (wrap64 (Int.tdiv (wrap64 ((wrap64 (a0 + 719468)) - (wrap64 (t101 * 146097)))) 1460)))) + (wrap64 (Int.tdiv (wrap64 ((wrap64 (a0 + 719468)) - (wrap64 (t101 * 146097)))) 36524)))) - (wrap64 (Int.tdiv (wrap64 ((wrap64 (a0 + 719468)) - (wrap64 (t101 * 146097)))) 146096)))) 365)) 4)))) - (wrap64 (Int.tdiv (wrap64 (Int.tdiv (wrap64 ((wrap64 ((wrap64 ((wrap64 ((wrap64 (a0 + 719468)) - (wrap64 (t101 * 146097)))) - (wrap64 (Int.tdiv (wrap64 ((wrap64 (a0 + 719468)) - (wrap64 (t101 * 146097)))) 1460)))) + (wrap64 (Int.tdiv (wrap64 ((wrap64 (a0 + 719468)) - (wrap64 (t101 * 146097)))) 36524)))) - (wrap64 (Int.tdiv (wrap64 ((wrap64 (a0 + 719468)) - (wrap64 (t101 * 146097)))) 146096)))) 365)) 100)))))))) + 2)) 153)))) + 2)) 5)))) + 1))) else (some (wrap64 ((wrap64 (Int.tdiv (wrap64 ((wrap64 ((wrap64 ((wrap64 ((wrap64 (a0 + 719468)) - (wrap64 (t101 * 146097)))) - (wrap64 (Int.tdiv (wrap64 ((wrap64 (a0 + 719468)) - (wrap64 (t101 * 146097)))) 1460)))) + (wrap64 (Int.tdiv (wrap64 ((wrap64 (a0 + 719468)) - (wrap64 (t101 * 146097)))) 36524)))) - (wrap64 (Int.tdiv (wrap64 ((wrap64 (a0 + 719468)) - (wrap64 (t101 * 146097)))) 146096)))) 365)) + (wrap64 (t101 * 400))), wrap64 ((wrap64 (Int.tdiv (wrap64 ((wrap64 (5 * (wrap64 ((wrap64 ((wrap64 (a0 + 719468)) - (wrap64 (t101 * 146097)))) - (wrap64 ((wrap64 ((wrap64 (365 * (wrap64 (Int.tdiv (wrap64 ((wrap64 ((wrap64 ((wrap64 ((wrap64 (a0 + 719468)) - (wrap64 (t101 * 146097)))) - (wrap64 (Int.tdiv (wrap64 ((wrap64 (a0 + 719468)) - (wrap64 (t101 * 146097)))) 1460)))) + (wrap64 (Int.tdiv (wrap64 ((wrap64 (a0 + 719468)) - (wrap64 (t101 * 146097)))) 36524)))) - (wrap64 (Int.tdiv (wrap64 ((wrap64 (a0 + 719468)) - (wrap64 (t101 * 146097)))) 146096)))) 365)))) + (wrap64 (Int.tdiv (wrap64 (Int.tdiv (wrap64 ((wrap64 ((wrap64 ((wrap64 ((wrap64 (a0 + 719468)) - (wrap64 (t101 * 146097)))) - (wrap64 (Int.tdiv (wrap64 ((wrap64 (a0 + 719468)) - (wrap64 (t101 * 146097)))) 1460)))) + (wrap64 (Int.tdiv (wrap64 ((wrap64 (a0 + 719468)) - (wrap64 (t101 * 146097)))) 36524)))) - (wrap64 (Int.tdiv (wrap64 ((wrap64 (a0 + 719468)) - (wrap64 (t101 * 146097)))) 146096)))) 365)) 4)))) - (wrap64 (Int.tdiv (wrap64 (Int.tdiv (wrap64 ((wrap64 ((wrap64 ((wrap64 ((wrap64 (a0 + 719468)) - (wrap64 (t101 * 146097)))) - (wrap64 (Int.tdiv (wrap64 ((wrap64 (a0 + 719468)) - (wrap64 (t101 * 146097)))) 1460)))) + (wrap64 (Int.tdiv (wrap64 ((wrap64 (a0 + 719468)) - (wrap64 (t101 * 146097)))) 36524)))) - (wrap64 (Int.tdiv (wrap64 ((wrap64 (a0 + 719468)) - (wrap64 (t101 * 146097)))) 146096)))) 365)) 100)))))))) + 2)) 153)) + 3), wrap64 ((wrap64 ((wrap64 ((wrap64 ((wrap64 (a0 + 719468)) - (wrap64 (t101 * 146097)))) - (wrap64 ((wrap64 ((wrap64 (365 * (wrap64 (Int.tdiv (wrap64 ((wrap64 ((wrap64 ((wrap64 ((wrap64 (a0 + 719468)) - (wrap64 (t101 * 146097)))) - (wrap64 (Int.tdiv (wrap64 ((wrap64 (a0 + 719468)) - (wrap64 (t101 * 146097)))) 1460)))) + (wrap64 (Int.tdiv (wrap64 ((wrap64 (a0 + 719468)) - (wrap64 (t101 * 146097)))) 36524)))) - (wrap64 (Int.tdiv (wrap64 ((wrap64 (a0 + 719468)) - (wrap64 (t101 * 146097)))) 146096)))) 365)))) + (wrap64 (Int.tdiv (wrap64 (Int.tdiv (wrap64 ((wrap64 ((wrap64 ((wrap64 ((wrap64 (a0 + 719468)) - (wrap64 (t101 * 146097)))) - (wrap64 (Int.tdiv (wrap64 ((wrap64 (a0 + 719468)) - (wrap64 (t101 * 146097)))) 1460)))) + (wrap64 (Int.tdiv (wrap64 ((wrap64 (a0 + 719468)) - (wrap64 (t101 * 146097)))) 36524)))) - (wrap64 (Int.tdiv (wrap64 ((wrap64 (a0 + 719468)) - (wrap64 (t101 * 146097)))) 146096)))) 365)) 4)))) - (wrap64 (Int.tdiv (wrap64 (Int.tdiv (wrap64 ((wrap64 ((wrap64 ((wrap64 ((wrap64 (a0 + 719468)) - (wrap64 (t101 * 146097)))) - (wrap64 (Int.tdiv (wrap64 ((wrap64 (a0 + 719468)) - (wrap64 (t101 * 146097)))) 1460)))) + (wrap64 (Int.tdiv (wrap64 ((wrap64 (a0 + 719468)) - (wrap64 (t101 * 146097)))) 36524)))) - (wrap64 (Int.tdiv (wrap64 ((wrap64 (a0 + 719468)) - (wrap64 (t101 * 146097)))) 146096)))) 365)) 100)))))) - (wrap64 (Int.tdiv (wrap64 ((wrap64 (153 * (wrap64 (Int.tdiv (wrap64 ((wrap64 (5 * (wrap64 ((wrap64 ((wrap64 (a0 + 719468)) - (wrap64 (t101 * 146097)))) - (wrap64 ((wrap64 ((wrap64 (365 * (wrap64 (Int.tdiv (wrap64 ((wrap64 ((wrap64 ((wrap64 ((wrap64 (a0 + 719468)) - (wrap64 (t101 * 146097)))) - (wrap64 (Int.tdiv (wrap64 ((wrap64 (a0 + 719468)) - (wrap64 (t101 * 146097)))) 1460)))) + (wrap64 (Int.tdiv (wrap64 ((wrap64 (a0 + 719468)) - (wrap64 (t101 * 146097)))) 36524)))) - (wrap64 (Int.tdiv (wrap64 ((wrap64 (a0 + 719468)) - (wrap64 (t101 * 146097)))) 146096)))) 365)))) + (wrap64 (Int.tdiv (wrap64 (Int.tdiv (wrap64 ((wrap64 ((wrap64 ((wrap64 ((wrap64 (a0 + 719468)) - (wrap64 (t101 * 146097)))) - (wrap64 (Int.tdiv (wrap64 ((wrap64 (a0 + 719468)) - (wrap64 (t101 * 146097)))) 1460)))) + (wrap64 (Int.tdiv (wrap64 ((wrap64 (a0 + 719468)) - (wrap64 (t101 * 146097)))) 36524)))) - (wrap64 (Int.tdiv (wrap64 ((wrap64 (a0 + 719468)) - (wrap64 (t101 * 146097)))) 146096)))) 365)) 4)))) - (wrap64 (Int.tdiv (wrap64 (Int.tdiv (wrap64 ((wrap64 ((wrap64 ((wrap64 ((wrap64 (a0 + 719468)) - (wrap64 (t101 * 146097)))) - (wrap64 (Int.tdiv (wrap64 ((wrap64 (a0 + 719468)) - (wrap64 (t101 * 146097)))) 1460)))) + (wrap64 (Int.tdiv (wrap64 ((wrap64 (a0 + 719468)) - (wrap64 (t101 * 146097)))) 36524)))) - (wrap64 (Int.tdiv (wrap64 ((wrap64 (a0 + 719468)) - (wrap64 (t101 * 146097)))) 146096)))) 365)) 100)))))))) + 2)) 153)))) + 2)) 5)))) + 1))))
set_option maxHeartbeats 8000000 in
set_option maxRecDepth 100000 in
theorem value_date.calls (a0 : Int) (r1 : Int) (r2 : Int) (r3 : Int) (w : World) (h : value_date.f a0 = some (r1, r2, r3)) :
  Calls Tryd.prog 32 #[.int .i64 a0] w fun e w' => e = .returned (.tuple #[.int .i64 r1, .int .i64 r2, .int .i64 r3]) ∧ Drawn0 w w' := by
 have H : ((value_floor.f (wrap64 (a0 + 719468)) 146097).bind fun t101 => (if (wrap64 ((wrap64 (Int.tdiv (wrap64 ((wrap64 (5 * (wrap64 ((wrap64 ((wrap64 (a0 + 719468)) - (wrap64 (t101 * 146097)))) - (wrap64 ((wrap64 ((wrap64 (365 * (wrap64 (Int.tdiv (wrap64 ((wrap64 ((wrap64 ((wrap64 ((wrap64 (a0 + 719468)) - (wrap64 (t101 * 146097)))) - (wrap64 (Int.tdiv (wrap64 ((wrap64 (a0 + 719468)) - (wrap64 (t101 * 146097)))) 1460)))) + (wrap64 (Int.tdiv (wrap64 ((wrap64 (a0 + 719468)) - (wrap64 (t101 * 146097)))) 36524)))) - (wrap64 (Int.tdiv (wrap64 ((wrap64 (a0 + 719468)) - (wrap64 (t101 * 146097)))) 146096)))) 365)))) + (wrap64 (Int.tdiv (wrap64 (Int.tdiv (wrap64 ((wrap64 ((wrap64 ((wrap64 ((wrap64 (a0 + 719468)) - (wrap64 (t101 * 146097)))) - (wrap64 (Int.tdiv (wrap64 ((wrap64 (a0 + 719468)) - (wrap64 (t101 * 146097)))) 1460)))) + (wrap64 (Int.tdiv (wrap64 ((wrap64 (a0 + 719468)) - (wrap64 (t101 * 146097)))) 36524)))) - (wrap64 (Int.tdiv (wrap64 ((wrap64 (a0 + 719468)) - (wrap64 (t101 * 146097)))) 146096)))) 365)) 4)))) - (wrap64 (Int.tdiv (wrap64 (Int.tdiv (wrap64 ((wrap64 ((wrap64 ((wrap64 ((wrap64 (a0 + 719468)) - (wrap64 (t101 * 146097)))) - (wrap64 (Int.tdiv (wrap64 ((wrap64 (a0 + 719468)) - (wrap64 (t101 * 146097)))) 1460)))) + (wrap64 (Int.tdiv (wrap64 ((wrap64 (a0 + 719468)) - (wrap64 (t101 * 146097)))) 36524)))) - (wrap64 (Int.tdiv (wrap64 ((wrap64 (a0 + 719468)) - (wrap64 (t101 * 146097)))) 146096)))) 365)) 100)))))))) + 2)) 153)) + 3)) > 12 then (some (wrap64 ((wrap64 ((wrap64 (Int.tdiv (wrap64 ((wrap64 ((wrap64 ((wrap64 ((wrap64 (a0 + 719468)) - (wrap64 (t101 * 146097)))) - (wrap64 (Int.tdiv (wrap64 ((wrap64 (a0 + 719468)) - (wrap64 (t101 * 146097)))) 1460)))) + (wrap64 (Int.tdiv (wrap64 ((wrap64 (a0 + 719468)) - (wrap64 (t101 * 146097)))) 36524)))) - (wrap64 (Int.tdiv (wrap64 ((wrap64 (a0 + 719468)) - (wrap64 (t101 * 146097)))) 146096)))) 365)) + (wrap64 (t101 * 400)))) + 1), wrap64 ((wrap64 ((wrap64 (Int.tdiv (wrap64 ((wrap64 (5 * (wrap64 ((wrap64 ((wrap64 (a0 + 719468)) - (wrap64 (t101 * 146097)))) - (wrap64 ((wrap64 ((wrap64 (365 * (wrap64 (Int.tdiv (wrap64 ((wrap64 ((wrap64 ((wrap64 ((wrap64 (a0 + 719468)) - (wrap64 (t101 * 146097)))) - (wrap64 (Int.tdiv (wrap64 ((wrap64 (a0 + 719468)) - (wrap64 (t101 * 146097)))) 1460)))) + (wrap64 (Int.tdiv (wrap64 ((wrap64 (a0 + 719468)) - (wrap64 (t101 * 146097)))) 36524)))) - (wrap64 (Int.tdiv (wrap64 ((wrap64 (a0 + 719468)) - (wrap64 (t101 * 146097)))) 146096)))) 365)))) + (wrap64 (Int.tdiv (wrap64 (Int.tdiv (wrap64 ((wrap64 ((wrap64 ((wrap64 ((wrap64 (a0 + 719468)) - (wrap64 (t101 * 146097)))) - (wrap64 (Int.tdiv (wrap64 ((wrap64 (a0 + 719468)) - (wrap64 (t101 * 146097)))) 1460)))) + (wrap64 (Int.tdiv (wrap64 ((wrap64 (a0 + 719468)) - (wrap64 (t101 * 146097)))) 36524)))) - (wrap64 (Int.tdiv (wrap64 ((wrap64 (a0 + 719468)) - (wrap64 (t101 * 146097)))) 146096)))) 365)) 4)))) - (wrap64 (Int.tdiv (wrap64 (Int.tdiv (wrap64 ((wrap64 ((wrap64 ((wrap64 ((wrap64 (a0 + 719468)) - (wrap64 (t101 * 146097)))) - (wrap64 (Int.tdiv (wrap64 ((wrap64 (a0 + 719468)) - (wrap64 (t101 * 146097)))) 1460)))) + (wrap64 (Int.tdiv (wrap64 ((wrap64 (a0 + 719468)) - (wrap64 (t101 * 146097)))) 36524)))) - (wrap64 (Int.tdiv (wrap64 ((wrap64 (a0 + 719468)) - (wrap64 (t101 * 146097)))) 146096)))) 365)) 100)))))))) + 2)) 153)) + 3)) - 12), wrap64 ((wrap64 ((wrap64 ((wrap64 ((wrap64 (a0 + 719468)) - (wrap64 (t101 * 146097)))) - (wrap64 ((wrap64 ((wrap64 (365 * (wrap64 (Int.tdiv (wrap64 ((wrap64 ((wrap64 ((wrap64 ((wrap64 (a0 + 719468)) - (wrap64 (t101 * 146097)))) - (wrap64 (Int.tdiv (wrap64 ((wrap64 (a0 + 719468)) - (wrap64 (t101 * 146097)))) 1460)))) + (wrap64 (Int.tdiv (wrap64 ((wrap64 (a0 + 719468)) - (wrap64 (t101 * 146097)))) 36524)))) - (wrap64 (Int.tdiv (wrap64 ((wrap64 (a0 + 719468)) - (wrap64 (t101 * 146097)))) 146096)))) 365)))) + (wrap64 (Int.tdiv (wrap64 (Int.tdiv (wrap64 ((wrap64 ((wrap64 ((wrap64 ((wrap64 (a0 + 719468)) - (wrap64 (t101 * 146097)))) - (wrap64 (Int.tdiv (wrap64 ((wrap64 (a0 + 719468)) - (wrap64 (t101 * 146097)))) 1460)))) + (wrap64 (Int.tdiv (wrap64 ((wrap64 (a0 + 719468)) - (wrap64 (t101 * 146097)))) 36524)))) - (wrap64 (Int.tdiv (wrap64 ((wrap64 (a0 + 719468)) - (wrap64 (t101 * 146097)))) 146096)))) 365)) 4)))) - (wrap64 (Int.tdiv (wrap64 (Int.tdiv (wrap64 ((wrap64 ((wrap64 ((wrap64 ((wrap64 (a0 + 719468)) - (wrap64 (t101 * 146097)))) - (wrap64 (Int.tdiv (wrap64 ((wrap64 (a0 + 719468)) - (wrap64 (t101 * 146097)))) 1460)))) + (wrap64 (Int.tdiv (wrap64 ((wrap64 (a0 + 719468)) - (wrap64 (t101 * 146097)))) 36524)))) - (wrap64 (Int.tdiv (wrap64 ((wrap64 (a0 + 719468)) - (wrap64 (t101 * 146097)))) 146096)))) 365)) 100)))))) - (wrap64 (Int.tdiv (wrap64 ((wrap64 (153 * (wrap64 (Int.tdiv (wrap64 ((wrap64 (5 * (wrap64 ((wrap64 ((wrap64 (a0 + 719468)) - (wrap64 (t101 * 146097)))) - (wrap64 ((wrap64 ((wrap64 (365 * (wrap64 (Int.tdiv (wrap64 ((wrap64 ((wrap64 ((wrap64 ((wrap64 (a0 + 719468)) - (wrap64 (t101 * 146097)))) - (wrap64 (Int.tdiv (wrap64 ((wrap64 (a0 + 719468)) - (wrap64 (t101 * 146097)))) 1460)))) + (wrap64 (Int.tdiv (wrap64 ((wrap64 (a0 + 719468)) - (wrap64 (t101 * 146097)))) 36524)))) - (wrap64 (Int.tdiv (wrap64 ((wrap64 (a0 + 719468)) - (wrap64 (t101 * 146097)))) 146096)))) 365)))) + (wrap64 (Int.tdiv (wrap64 (Int.tdiv (wrap64 ((wrap64 ((wrap64 ((wrap64 ((wrap64 (a0 + 719468)) - (wrap64 (t101 * 146097)))) - (wrap64 (Int.tdiv (wrap64 ((wrap64 (a0 + 719468)) - (wrap64 (t101 * 146097)))) 1460)))) + (wrap64 (Int.tdiv (wrap64 ((wrap64 (a0 + 719468)) - (wrap64 (t101 * 146097)))) 36524)))) - (wrap64 (Int.tdiv (wrap64 ((wrap64 (a0 + 719468)) - (wrap64 (t101 * 146097)))) 146096)))) 365)) 4)))) - (wrap64 (Int.tdiv (wrap64 (Int.tdiv (wrap64 ((wrap64 ((wrap64 ((wrap64 ((wrap64 (a0 + 719468)) - (wrap64 (t101 * 146097)))) - (wrap64 (Int.tdiv (wrap64 ((wrap64 (a0 + 719468)) - (wrap64 (t101 * 146097)))) 1460)))) + (wrap64 (Int.tdiv (wrap64 ((wrap64 (a0 + 719468)) - (wrap64 (t101 * 146097)))) 36524)))) - (wrap64 (Int.tdiv (wrap64 ((wrap64 (a0 + 719468)) - (wrap64 (t101 * 146097)))) 146096)))) 365)) 100)))))))) + 2)) 153)))) + 2)) 5)))) + 1))) else (some (wrap64 ((wrap64 (Int.tdiv (wrap64 ((wrap64 ((wrap64 ((wrap64 ((wrap64 (a0 + 719468)) - (wrap64 (t101 * 146097)))) - (wrap64 (Int.tdiv (wrap64 ((wrap64 (a0 + 719468)) - (wrap64 (t101 * 146097)))) 1460)))) + (wrap64 (Int.tdiv (wrap64 ((wrap64 (a0 + 719468)) - (wrap64 (t101 * 146097)))) 36524)))) - (wrap64 (Int.tdiv (wrap64 ((wrap64 (a0 + 719468)) - (wrap64 (t101 * 146097)))) 146096)))) 365)) + (wrap64 (t101 * 400))), wrap64 ((wrap64 (Int.tdiv (wrap64 ((wrap64 (5 * (wrap64 ((wrap64 ((wrap64 (a0 + 719468)) - (wrap64 (t101 * 146097)))) - (wrap64 ((wrap64 ((wrap64 (365 * (wrap64 (Int.tdiv (wrap64 ((wrap64 ((wrap64 ((wrap64 ((wrap64 (a0 + 719468)) - (wrap64 (t101 * 146097)))) - (wrap64 (Int.tdiv (wrap64 ((wrap64 (a0 + 719468)) - (wrap64 (t101 * 146097)))) 1460)))) + (wrap64 (Int.tdiv (wrap64 ((wrap64 (a0 + 719468)) - (wrap64 (t101 * 146097)))) 36524)))) - (wrap64 (Int.tdiv (wrap64 ((wrap64 (a0 + 719468)) - (wrap64 (t101 * 146097)))) 146096)))) 365)))) + (wrap64 (Int.tdiv (wrap64 (Int.tdiv (wrap64 ((wrap64 ((wrap64 ((wrap64 ((wrap64 (a0 + 719468)) - (wrap64 (t101 * 146097)))) - (wrap64 (Int.tdiv (wrap64 ((wrap64 (a0 + 719468)) - (wrap64 (t101 * 146097)))) 1460)))) + (wrap64 (Int.tdiv (wrap64 ((wrap64 (a0 + 719468)) - (wrap64 (t101 * 146097)))) 36524)))) - (wrap64 (Int.tdiv (wrap64 ((wrap64 (a0 + 719468)) - (wrap64 (t101 * 146097)))) 146096)))) 365)) 4)))) - (wrap64 (Int.tdiv (wrap64 (Int.tdiv (wrap64 ((wrap64 ((wrap64 ((wrap64 ((wrap64 (a0 + 719468)) - (wrap64 (t101 * 146097)))) - (wrap64 (Int.tdiv (wrap64 ((wrap64 (a0 + 719468)) - (wrap64 (t101 * 146097)))) 1460)))) + (wrap64 (Int.tdiv (wrap64 ((wrap64 (a0 + 719468)) - (wrap64 (t101 * 146097)))) 36524)))) - (wrap64 (Int.tdiv (wrap64 ((wrap64 (a0 + 719468)) - (wrap64 (t101 * 146097)))) 146096)))) 365)) 100)))))))) + 2)) 153)) + 3), wrap64 ((wrap64 ((wrap64 ((wrap64 ((wrap64 (a0 + 719468)) - (wrap64 (t101 * 146097)))) - (wrap64 ((wrap64 ((wrap64 (365 * (wrap64 (Int.tdiv (wrap64 ((wrap64 ((wrap64 ((wrap64 ((wrap64 (a0 + 719468)) - (wrap64 (t101 * 146097)))) - (wrap64 (Int.tdiv (wrap64 ((wrap64 (a0 + 719468)) - (wrap64 (t101 * 146097)))) 1460)))) + (wrap64 (Int.tdiv (wrap64 ((wrap64 (a0 + 719468)) - (wrap64 (t101 * 146097)))) 36524)))) - (wrap64 (Int.tdiv (wrap64 ((wrap64 (a0 + 719468)) - (wrap64 (t101 * 146097)))) 146096)))) 365)))) + (wrap64 (Int.tdiv (wrap64 (Int.tdiv (wrap64 ((wrap64 ((wrap64 ((wrap64 ((wrap64 (a0 + 719468)) - (wrap64 (t101 * 146097)))) - (wrap64 (Int.tdiv (wrap64 ((wrap64 (a0 + 719468)) - (wrap64 (t101 * 146097)))) 1460)))) + (wrap64 (Int.tdiv (wrap64 ((wrap64 (a0 + 719468)) - (wrap64 (t101 * 146097)))) 36524)))) - (wrap64 (Int.tdiv (wrap64 ((wrap64 (a0 + 719468)) - (wrap64 (t101 * 146097)))) 146096)))) 365)) 4)))) - (wrap64 (Int.tdiv (wrap64 (Int.tdiv (wrap64 ((wrap64 ((wrap64 ((wrap64 ((wrap64 (a0 + 719468)) - (wrap64 (t101 * 146097)))) - (wrap64 (Int.tdiv (wrap64 ((wrap64 (a0 + 719468)) - (wrap64 (t101 * 146097)))) 1460)))) + (wrap64 (Int.tdiv (wrap64 ((wrap64 (a0 + 719468)) - (wrap64 (t101 * 146097)))) 36524)))) - (wrap64 (Int.tdiv (wrap64 ((wrap64 (a0 + 719468)) - (wrap64 (t101 * 146097)))) 146096)))) 365)) 100)))))) - (wrap64 (Int.tdiv (wrap64 ((wrap64 (153 * (wrap64 (Int.tdiv (wrap64 ((wrap64 (5 * (wrap64 ((wrap64 ((wrap64 (a0 + 719468)) - (wrap64 (t101 * 146097)))) - (wrap64 ((wrap64 ((wrap64 (365 * (wrap64 (Int.tdiv (wrap64 ((wrap64 ((wrap64 ((wrap64 ((wrap64 (a0 + 719468)) - (wrap64 (t101 * 146097)))) - (wrap64 (Int.tdiv (wrap64 ((wrap64 (a0 + 719468)) - (wrap64 (t101 * 146097)))) 1460)))) + (wrap64 (Int.tdiv (wrap64 ((wrap64 (a0 + 719468)) - (wrap64 (t101 * 146097)))) 36524)))) - (wrap64 (Int.tdiv (wrap64 ((wrap64 (a0 + 719468)) - (wrap64 (t101 * 146097)))) 146096)))) 365)))) + (wrap64 (Int.tdiv (wrap64 (Int.tdiv (wrap64 ((wrap64 ((wrap64 ((wrap64 ((wrap64 (a0 + 719468)) - (wrap64 (t101 * 146097)))) - (wrap64 (Int.tdiv (wrap64 ((wrap64 (a0 + 719468)) - (wrap64 (t101 * 146097)))) 1460)))) + (wrap64 (Int.tdiv (wrap64 ((wrap64 (a0 + 719468)) - (wrap64 (t101 * 146097)))) 36524)))) - (wrap64 (Int.tdiv (wrap64 ((wrap64 (a0 + 719468)) - (wrap64 (t101 * 146097)))) 146096)))) 365)) 4)))) - (wrap64 (Int.tdiv (wrap64 (Int.tdiv (wrap64 ((wrap64 ((wrap64 ((wrap64 ((wrap64 (a0 + 719468)) - (wrap64 (t101 * 146097)))) - (wrap64 (Int.tdiv (wrap64 ((wrap64 (a0 + 719468)) - (wrap64 (t101 * 146097)))) 1460)))) + (wrap64 (Int.tdiv (wrap64 ((wrap64 (a0 + 719468)) - (wrap64 (t101 * 146097)))) 36524)))) - (wrap64 (Int.tdiv (wrap64 ((wrap64 (a0 + 719468)) - (wrap64 (t101 * 146097)))) 146096)))) 365)) 100)))))))) + 2)) 153)))) + 2)) 5)))) + 1))))) = some (r1, r2, r3) := h
 clear h
 replace H := Option.bind_eq_some_iff.mp H
 obtain ⟨t101, A20, H⟩ := H
 (try dsimp only at H)
 have A2 := Aside0.mk A20
 clear A20
 by_cases c3 : (wrap64 ((wrap64 (Int.tdiv (wrap64 ((wrap64 (5 * (wrap64 ((wrap64 ((wrap64 (a0 + 719468)) - (wrap64 (t101 * 146097)))) - (wrap64 ((wrap64 ((wrap64 (365 * (wrap64 (Int.tdiv (wrap64 ((wrap64 ((wrap64 ((wrap64 ((wrap64 (a0 + 719468)) - (wrap64 (t101 * 146097)))) - (wrap64 (Int.tdiv (wrap64 ((wrap64 (a0 + 719468)) - (wrap64 (t101 * 146097)))) 1460)))) + (wrap64 (Int.tdiv (wrap64 ((wrap64 (a0 + 719468)) - (wrap64 (t101 * 146097)))) 36524)))) - (wrap64 (Int.tdiv (wrap64 ((wrap64 (a0 + 719468)) - (wrap64 (t101 * 146097)))) 146096)))) 365)))) + (wrap64 (Int.tdiv (wrap64 (Int.tdiv (wrap64 ((wrap64 ((wrap64 ((wrap64 ((wrap64 (a0 + 719468)) - (wrap64 (t101 * 146097)))) - (wrap64 (Int.tdiv (wrap64 ((wrap64 (a0 + 719468)) - (wrap64 (t101 * 146097)))) 1460)))) + (wrap64 (Int.tdiv (wrap64 ((wrap64 (a0 + 719468)) - (wrap64 (t101 * 146097)))) 36524)))) - (wrap64 (Int.tdiv (wrap64 ((wrap64 (a0 + 719468)) - (wrap64 (t101 * 146097)))) 146096)))) 365)) 4)))) - (wrap64 (Int.tdiv (wrap64 (Int.tdiv (wrap64 ((wrap64 ((wrap64 ((wrap64 ((wrap64 (a0 + 719468)) - (wrap64 (t101 * 146097)))) - (wrap64 (Int.tdiv (wrap64 ((wrap64 (a0 + 719468)) - (wrap64 (t101 * 146097)))) 1460)))) + (wrap64 (Int.tdiv (wrap64 ((wrap64 (a0 + 719468)) - (wrap64 (t101 * 146097)))) 36524)))) - (wrap64 (Int.tdiv (wrap64 ((wrap64 (a0 + 719468)) - (wrap64 (t101 * 146097)))) 146096)))) 365)) 100)))))))) + 2)) 153)) + 3)) > 12
 rotate_left
 ·rw [if_neg c3] at H
  have c3b0 : decide (12 < (wrap64 ((wrap64 (Int.tdiv (wrap64 ((wrap64 (5 * (wrap64 ((wrap64 ((wrap64 (a0 + 719468)) - (wrap64 (t101 * 146097)))) - (wrap64 ((wrap64 ((wrap64 (365 * (wrap64 (Int.tdiv (wrap64 ((wrap64 ((wrap64 ((wrap64 ((wrap64 (a0 + 719468)) - (wrap64 (t101 * 146097)))) - (wrap64 (Int.tdiv (wrap64 ((wrap64 (a0 + 719468)) - (wrap64 (t101 * 146097)))) 1460)))) + (wrap64 (Int.tdiv (wrap64 ((wrap64 (a0 + 719468)) - (wrap64 (t101 * 146097)))) 36524)))) - (wrap64 (Int.tdiv (wrap64 ((wrap64 (a0 + 719468)) - (wrap64 (t101 * 146097)))) 146096)))) 365)))) + (wrap64 (Int.tdiv (wrap64 (Int.tdiv (wrap64 ((wrap64 ((wrap64 ((wrap64 ((wrap64 (a0 + 719468)) - (wrap64 (t101 * 146097)))) - (wrap64 (Int.tdiv (wrap64 ((wrap64 (a0 + 719468)) - (wrap64 (t101 * 146097)))) 1460)))) + (wrap64 (Int.tdiv (wrap64 ((wrap64 (a0 + 719468)) - (wrap64 (t101 * 146097)))) 36524)))) - (wrap64 (Int.tdiv (wrap64 ((wrap64 (a0 + 719468)) - (wrap64 (t101 * 146097)))) 146096)))) 365)) 4)))) - (wrap64 (Int.tdiv (wrap64 (Int.tdiv (wrap64 ((wrap64 ((wrap64 ((wrap64 ((wrap64 (a0 + 719468)) - (wrap64 (t101 * 146097)))) - (wrap64 (Int.tdiv (wrap64 ((wrap64 (a0 + 719468)) - (wrap64 (t101 * 146097)))) 1460)))) + (wrap64 (Int.tdiv (wrap64 ((wrap64 (a0 + 719468)) - (wrap64 (t101 * 146097)))) 36524)))) - (wrap64 (Int.tdiv (wrap64 ((wrap64 (a0 + 719468)) - (wrap64 (t101 * 146097)))) 146096)))) 365)) 100)))))))) + 2)) 153)) + 3))) = false := decide_eq_false c3
  clear c3
  simp only [Option.some.injEq, Prod.mk.injEq] at H
  obtain ⟨rfl, rfl, rfl⟩ := H
  go_enter Tryd.func32, Tryd.ntmps32
  go_wp2_with (first | ((with_reducible refine gate_callee (f := 52) rfl ?_); refine goesL_ (some 14) rfl rfl Tryd.func52 (by kernel_rfl) rfl #[.int .i64 (wrap64 (a0 + 719468)), .int .i64 146097] rfl (by (try simp only [List.map_toArray, List.map_cons, List.map_nil]) <;> rfl) ?_; (with_reducible refine (value_floor.calls (wrap64 (a0 + 719468)) 146097 t101 _ A2.out).mono ?_); rintro e w' ⟨rfl, ⟨nd, rfl⟩⟩; refine ⟨_, rfl, ?_⟩))
  go_ret3
  exact ⟨by first | rfl | (simp; done) | (simp [*]; done), by repeat (first | exact Drawn0.refl _ | apply Drawn0.step)⟩
 rw [if_pos c3] at H
 have c3b0 : decide (12 < (wrap64 ((wrap64 (Int.tdiv (wrap64 ((wrap64 (5 * (wrap64 ((wrap64 ((wrap64 (a0 + 719468)) - (wrap64 (t101 * 146097)))) - (wrap64 ((wrap64 ((wrap64 (365 * (wrap64 (Int.tdiv (wrap64 ((wrap64 ((wrap64 ((wrap64 ((wrap64 (a0 + 719468)) - (wrap64 (t101 * 146097)))) - (wrap64 (Int.tdiv (wrap64 ((wrap64 (a0 + 719468)) - (wrap64 (t101 * 146097)))) 1460)))) + (wrap64 (Int.tdiv (wrap64 ((wrap64 (a0 + 719468)) - (wrap64 (t101 * 146097)))) 36524)))) - (wrap64 (Int.tdiv (wrap64 ((wrap64 (a0 + 719468)) - (wrap64 (t101 * 146097)))) 146096)))) 365)))) + (wrap64 (Int.tdiv (wrap64 (Int.tdiv (wrap64 ((wrap64 ((wrap64 ((wrap64 ((wrap64 (a0 + 719468)) - (wrap64 (t101 * 146097)))) - (wrap64 (Int.tdiv (wrap64 ((wrap64 (a0 + 719468)) - (wrap64 (t101 * 146097)))) 1460)))) + (wrap64 (Int.tdiv (wrap64 ((wrap64 (a0 + 719468)) - (wrap64 (t101 * 146097)))) 36524)))) - (wrap64 (Int.tdiv (wrap64 ((wrap64 (a0 + 719468)) - (wrap64 (t101 * 146097)))) 146096)))) 365)) 4)))) - (wrap64 (Int.tdiv (wrap64 (Int.tdiv (wrap64 ((wrap64 ((wrap64 ((wrap64 ((wrap64 (a0 + 719468)) - (wrap64 (t101 * 146097)))) - (wrap64 (Int.tdiv (wrap64 ((wrap64 (a0 + 719468)) - (wrap64 (t101 * 146097)))) 1460)))) + (wrap64 (Int.tdiv (wrap64 ((wrap64 (a0 + 719468)) - (wrap64 (t101 * 146097)))) 36524)))) - (wrap64 (Int.tdiv (wrap64 ((wrap64 (a0 + 719468)) - (wrap64 (t101 * 146097)))) 146096)))) 365)) 100)))))))) + 2)) 153)) + 3))) = true := decide_eq_true c3
 clear c3
 simp only [Option.some.injEq, Prod.mk.injEq] at H
 obtain ⟨rfl, rfl, rfl⟩ := H
 go_enter Tryd.func32, Tryd.ntmps32
 go_wp2_with (first | ((with_reducible refine gate_callee (f := 52) rfl ?_); refine goesL_ (some 14) rfl rfl Tryd.func52 (by kernel_rfl) rfl #[.int .i64 (wrap64 (a0 + 719468)), .int .i64 146097] rfl (by (try simp only [List.map_toArray, List.map_cons, List.map_nil]) <;> rfl) ?_; (with_reducible refine (value_floor.calls (wrap64 (a0 + 719468)) 146097 t101 _ A2.out).mono ?_); rintro e w' ⟨rfl, ⟨nd, rfl⟩⟩; refine ⟨_, rfl, ?_⟩))
 go_ret3
 exact ⟨by first | rfl | (simp; done) | (simp [*]; done), by repeat (first | exact Drawn0.refl _ | apply Drawn0.step)⟩
def value_padded.f (a0 : Int) (a1 : Int) : Option (ByteArray) := (strconv_FormatInt_34.f (mx a0 (wrap64 (-a0))) 10).bind fun t101 => ((strings_Repeat.f (⟨#[48]⟩ : ByteArray) (mx 0 (wrap64 (a1 - (t101.size : Int))))).bind fun t102 => (if t102.size + t101.size ≤ 9223372036854775807 then (if a0 < 0 then (if 1 + (t102 ++ t101).size ≤ 9223372036854775807 then (some ((⟨#[45]⟩ : ByteArray) ++ (t102 ++ t101))) else (none)) else (some (t102 ++ t101))) else (none)))
set_option maxHeartbeats 8000000 in
set_option maxRecDepth 100000 in
theorem value_padded.calls (a0 : Int) (a1 : Int) (r : ByteArray) (w : World) (hG : Glob w) (h : value_padded.f a0 a1 = some r) :
  Calls Tryd.prog 33 #[.int .i64 a0, .int .i64 a1] w fun e w' => e = .returned (.string r) ∧ Below w.heap.size w w' := by
 have HG := Aside0.mk hG
 clear hG
 have HB := Aside0.mk (Below.refl w.heap.size w)
 have H : ((strconv_FormatInt_34.f (mx a0 (wrap64 (-a0))) 10).bind fun t101 => ((strings_Repeat.f (⟨#[48]⟩ : ByteArray) (mx 0 (wrap64 (a1 - (t101.size : Int))))).bind fun t102 => (if t102.size + t101.size ≤ 9223372036854775807 then (if a0 < 0 then (if 1 + (t102 ++ t101).size ≤ 9223372036854775807 then (some ((⟨#[45]⟩ : ByteArray) ++ (t102 ++ t101))) else (none)) else (some (t102 ++ t101))) else (none)))) = some r := h
 clear h
 obtain ⟨ji3, hji3⟩ : ∃ j_ : Int, (mx a0 (wrap64 (-a0))) = j_ := ⟨_, rfl⟩
 replace H : ((strconv_FormatInt_34.f (ji3) 10).bind fun t101 => ((strings_Repeat.f (⟨#[48]⟩ : ByteArray) (mx 0 (wrap64 (a1 - (t101.size : Int))))).bind fun t102 => (if t102.size + t101.size ≤ 9223372036854775807 then (if a0 < 0 then (if 1 + (t102 ++ t101).size ≤ 9223372036854775807 then (some ((⟨#[45]⟩ : ByteArray) ++ (t102 ++ t101))) else (none)) else (some (t102 ++ t101))) else (none)))) = some r := by first | (rw [hji3] at H; exact H) | (simp only [hji3] at H ⊢; exact H)
 have hji3_ : (if a0 < (wrap64 (-a0)) then (wrap64 (-a0)) else a0) = ji3 := hji3
 replace H := Option.bind_eq_some_iff.mp H
 obtain ⟨t101, A40, H⟩ := H
 (try dsimp only at H)
 have A4 := Aside0.mk A40
 clear A40
 obtain ⟨ji5, hji5⟩ : ∃ j_ : Int, (mx 0 (wrap64 (a1 - (t101.size : Int)))) = j_ := ⟨_, rfl⟩
 replace H : ((strings_Repeat.f (⟨#[48]⟩ : ByteArray) (ji5)).bind fun t102 => (if t102.size + t101.size ≤ 9223372036854775807 then (if a0 < 0 then (if 1 + (t102 ++ t101).size ≤ 9223372036854775807 then (some ((⟨#[45]⟩ : ByteArray) ++ (t102 ++ t101))) else (none)) else (some (t102 ++ t101))) else (none))) = some r := by first | (rw [hji5] at H; exact H) | (simp only [hji5] at H ⊢; exact H)
 (try rw [hji5] at A4)
 (try (have hji5l : 0 ≤ ji5 := by (rw [← hji5]; unfold mx; (repeat' split) <;> omega)))
 (try (have hji5m : 0 ≤ ji5 := by omega))
 have hji5_ : (if 0 < (wrap64 (a1 - (t101.size : Int))) then (wrap64 (a1 - (t101.size : Int))) else 0) = ji5 := hji5
 replace H := Option.bind_eq_some_iff.mp H
 obtain ⟨t102, A60, H⟩ := H
 (try dsimp only at H)
 have A6 := Aside0.mk A60
 clear A60
 by_cases c7 : t102.size + t101.size ≤ 9223372036854775807
 rotate_left
 ·rw [if_neg c7] at H
  exact absurd H (by simp)
 rw [if_pos c7] at H
 have c7b0 := eq_true c7
 have c7b1 : decide (t102.size + t101.size ≤ 9223372036854775807) = true := decide_eq_true c7
 try have c7b2 : (9223372036854775807 < t102.size + t101.size) = False := eq_false (Nat.not_lt.2 c7)
 by_cases c8 : a0 < 0
 rotate_left
 ·rw [if_neg c8] at H
  have c8b0 : decide (a0 < 0) = false := decide_eq_false c8
  clear c8
  obtain rfl := Option.some.inj H
  go_enter Tryd.func33, Tryd.ntmps33
  go_wp2_with (first | ((with_reducible refine gate_callee (f := 34) rfl ?_); refine goesL_ (some 10) rfl rfl Tryd.func34 (by kernel_rfl) rfl #[.int .i64 ji3, .int .i64 10] rfl (by (try simp only [List.map_toArray, List.map_cons, List.map_nil]); first | done | (simp only [hji3]; rfl) | rfl | (simp only [List.length_drop, List.length_take]; rfl)) ?_; (with_reducible refine (strconv_FormatInt_34.calls (hG := HG.out.at (xW HB.out)) ji3 10 t101 _ A4.out).mono ?_); rintro e w12 ⟨rfl, hb⟩; refine ⟨_, rfl, ?_⟩; have n0_ := Aside0.mk (below_step (xW HB.out) hb); clear HB; revert n0_; intro HB; (try clear hb)) | ((with_reducible refine gate_callee (f := 53) rfl ?_); refine goesL_ (some 16) rfl rfl Tryd.func53 (by kernel_rfl) rfl #[.string (⟨#[48]⟩ : ByteArray), .int .i64 ji5] rfl (by (try simp only [List.map_toArray, List.map_cons, List.map_nil]); first | done | (simp only [hji5]; rfl) | rfl | (simp only [List.length_drop, List.length_take]; rfl)) ?_; (with_reducible refine (strings_Repeat.calls (⟨#[48]⟩ : ByteArray) ji5 t102 _ A6.out).mono ?_); rintro e w13 ⟨rfl, hb⟩; refine ⟨_, rfl, ?_⟩; have n0_ := Aside0.mk (below_step (xW HB.out) hb); clear HB; revert n0_; intro HB; (try clear hb)))
  go_ret
  exact ⟨by first | rfl | (simp [errW_none, errW_some] <;> rfl) | (simp only [← hji3, ← hji5]; first | rfl | (simp [errW_none, errW_some] <;> rfl)) | (simp [*, errW_none, errW_some] <;> rfl), by repeat (first | (with_reducible first | exact HB.out | apply below_alloc | apply pw_below_drewN | apply below_drew1) | exact HB.out)⟩
 rw [if_pos c8] at H
 have c8b0 : decide (a0 < 0) = true := decide_eq_true c8
 clear c8
 by_cases c9 : 1 + (t102 ++ t101).size ≤ 9223372036854775807
 rotate_left
 ·rw [if_neg c9] at H
  exact absurd H (by simp)
 rw [if_pos c9] at H
 have c9b0 := eq_true c9
 have c9b1 : decide (1 + (t102 ++ t101).size ≤ 9223372036854775807) = true := decide_eq_true c9
 try have c9b2 : (9223372036854775807 < 1 + (t102 ++ t101).size) = False := eq_false (Nat.not_lt.2 c9)
 have c9s := c9
 (try simp only [ByteArray.size_append] at c9s)
 have c9sb0 := eq_true c9s
 have c9sb1 := decide_eq_true c9s
 try have c9sb2 := eq_false (Nat.not_lt.2 c9s)
 try have c9sb3 := decide_eq_false (Nat.not_lt.2 c9s)
 clear c9s
 obtain rfl := Option.some.inj H
 go_enter Tryd.func33, Tryd.ntmps33
 go_wp2_with (first | ((with_reducible refine gate_callee (f := 34) rfl ?_); refine goesL_ (some 10) rfl rfl Tryd.func34 (by kernel_rfl) rfl #[.int .i64 ji3, .int .i64 10] rfl (by (try simp only [List.map_toArray, List.map_cons, List.map_nil]); first | done | (simp only [hji3]; rfl) | rfl | (simp only [List.length_drop, List.length_take]; rfl)) ?_; (with_reducible refine (strconv_FormatInt_34.calls (hG := HG.out.at (xW HB.out)) ji3 10 t101 _ A4.out).mono ?_); rintro e w10 ⟨rfl, hb⟩; refine ⟨_, rfl, ?_⟩; have n0_ := Aside0.mk (below_step (xW HB.out) hb); clear HB; revert n0_; intro HB; (try clear hb)) | ((with_reducible refine gate_callee (f := 53) rfl ?_); refine goesL_ (some 16) rfl rfl Tryd.func53 (by kernel_rfl) rfl #[.string (⟨#[48]⟩ : ByteArray), .int .i64 ji5] rfl (by (try simp only [List.map_toArray, List.map_cons, List.map_nil]); first | done | (simp only [hji5]; rfl) | rfl | (simp only [List.length_drop, List.length_take]; rfl)) ?_; (with_reducible refine (strings_Repeat.calls (⟨#[48]⟩ : ByteArray) ji5 t102 _ A6.out).mono ?_); rintro e w11 ⟨rfl, hb⟩; refine ⟨_, rfl, ?_⟩; have n0_ := Aside0.mk (below_step (xW HB.out) hb); clear HB; revert n0_; intro HB; (try clear hb)))
 go_ret
 exact ⟨by first | rfl | (simp [errW_none, errW_some] <;> rfl) | (simp only [← hji3, ← hji5]; first | rfl | (simp [errW_none, errW_some] <;> rfl)) | (simp [*, errW_none, errW_some] <;> rfl), by repeat (first | (with_reducible first | exact HB.out | apply below_alloc | apply pw_below_drewN | apply below_drew1) | exact HB.out)⟩
def value_limits.f (a0 : Int) : Option (Int × Int) := if a0 = 1 then (some (0, 1)) else (if a0 = 2 then (some ((-2147483648), 2147483647)) else (if a0 = 5 then (some ((-1000000), 1000000)) else (some ((-9223372036854775808), 9223372036854775807))))
set_option maxHeartbeats 8000000 in
set_option maxRecDepth 100000 in
theorem value_limits.calls (a0 : Int) (r1 : Int) (r2 : Int) (w : World) (h : value_limits.f a0 = some (r1, r2)) :
  Calls Tryd.prog 35 #[.int .i64 a0] w fun e w' => e = .returned (.tuple #[.int .i64 r1, .int .i64 r2]) ∧ Drawn0 w w' := by
 have H : (if a0 = 1 then (some (0, 1)) else (if a0 = 2 then (some ((-2147483648), 2147483647)) else (if a0 = 5 then (some ((-1000000), 1000000)) else (some ((-9223372036854775808), 9223372036854775807))))) = some (r1, r2) := h
 clear h
 by_cases c2 : a0 = 1
 ·rw [if_pos c2] at H
  have c2b0 : (a0 == 1) = true := beq_iff_eq.mpr c2
  have c2b1 : (a0 != 1) = false := bne_eq_false_iff_eq.mpr c2
  clear c2
  simp only [Option.some.injEq, Prod.mk.injEq] at H
  obtain ⟨rfl, rfl⟩ := H
  go_enter Tryd.func35, Tryd.ntmps35
  go_wp2
  go_ret2
  exact ⟨by first | rfl | (simp; done) | (simp [*]; done), by repeat (first | exact Drawn0.refl _ | apply Drawn0.step)⟩
 ·rw [if_neg c2] at H
  have c2b0 : (a0 == 1) = false := beq_eq_false_iff_ne.mpr c2
  have c2b1 : (a0 != 1) = true := bne_iff_ne.mpr c2
  by_cases c3 : a0 = 2
  ·rw [if_pos c3] at H
   have c3b0 : (a0 == 2) = true := beq_iff_eq.mpr c3
   have c3b1 : (a0 != 2) = false := bne_eq_false_iff_eq.mpr c3
   clear c3
   simp only [Option.some.injEq, Prod.mk.injEq] at H
   obtain ⟨rfl, rfl⟩ := H
   go_enter Tryd.func35, Tryd.ntmps35
   go_wp2
   go_ret2
   exact ⟨by first | rfl | (simp; done) | (simp [*]; done), by repeat (first | exact Drawn0.refl _ | apply Drawn0.step)⟩
  ·rw [if_neg c3] at H
   have c3b0 : (a0 == 2) = false := beq_eq_false_iff_ne.mpr c3
   have c3b1 : (a0 != 2) = true := bne_iff_ne.mpr c3
   by_cases c4 : a0 = 5
   rotate_left
   ·rw [if_neg c4] at H
    have c4b0 : (a0 == 5) = false := beq_eq_false_iff_ne.mpr c4
    have c4b1 : (a0 != 5) = true := bne_iff_ne.mpr c4
    simp only [Option.some.injEq, Prod.mk.injEq] at H
    obtain ⟨rfl, rfl⟩ := H
    go_enter Tryd.func35, Tryd.ntmps35
    go_wp2
    go_ret2
    exact ⟨by first | rfl | (simp; done) | (simp [*]; done), by repeat (first | exact Drawn0.refl _ | apply Drawn0.step)⟩
   rw [if_pos c4] at H
   have c4b0 : (a0 == 5) = true := beq_iff_eq.mpr c4
   have c4b1 : (a0 != 5) = false := bne_eq_false_iff_eq.mpr c4
   clear c4
   simp only [Option.some.injEq, Prod.mk.injEq] at H
   obtain ⟨rfl, rfl⟩ := H
   go_enter Tryd.func35, Tryd.ntmps35
   go_wp2
   go_ret2
   exact ⟨by first | rfl | (simp; done) | (simp [*]; done), by repeat (first | exact Drawn0.refl _ | apply Drawn0.step)⟩
attribute [local go_sem high] eqA25
def value_Valid.f (a0_0 : Bool) (a0_1 : Int) (a0_2 : ByteArray) (a1 : Int) : Option (Bool) := (value_isType.f a1).bind fun t102 => (if t102 = true then (if a0_0 = true then (some (a0_0 && (a0_1 == 0 && (a0_2.toList == ([] : List UInt8))))) else (if a1 = 4 then (if a0_1 = 0 then (some (decide ((a0_2.size : Int) ≤ 200))) else (some false)) else (if a1 = 1 then ((value_limits.f a1).bind fun bt103 => (if a0_2.toList = ([] : List UInt8) then (if bt103.1 ≤ a0_1 then (some (decide (a0_1 ≤ bt103.2))) else (some false)) else (some false))) else (if a1 = 2 then ((value_limits.f a1).bind fun bt105 => (if a0_2.toList = ([] : List UInt8) then (if bt105.1 ≤ a0_1 then (some (decide (a0_1 ≤ bt105.2))) else (some false)) else (some false))) else (if a1 = 3 then ((value_limits.f a1).bind fun bt107 => (if a0_2.toList = ([] : List UInt8) then (if bt107.1 ≤ a0_1 then (some (decide (a0_1 ≤ bt107.2))) else (some false)) else (some false))) else (if a1 = 5 then ((value_limits.f a1).bind fun bt109 => (if a0_2.toList = ([] : List UInt8) then (if bt109.1 ≤ a0_1 then (some (decide (a0_1 ≤ bt109.2))) else (some false)) else (some false))) else (some false))))))) else (some false))
set_option maxHeartbeats 8000000 in
set_option maxRecDepth 100000 in
theorem value_Valid.calls (a0_0 : Bool) (a0_1 : Int) (a0_2 : ByteArray) (a1 : Int) (r : Bool) (w : World) (h : value_Valid.f a0_0 a0_1 a0_2 a1 = some r) :
  Calls Tryd.prog 14 #[.agg #[.bool a0_0, .int .i64 a0_1, .string a0_2], .int .i64 a1] w fun e w' => e = .returned (.bool r) ∧ Below w.heap.size w w' := by
 have hu25 := Tryd.underlying25
 have HB := Aside0.mk (Below.refl w.heap.size w)
 have H : ((value_isType.f a1).bind fun t102 => (if t102 = true then (if a0_0 = true then (some (a0_0 && (a0_1 == 0 && (a0_2.toList == ([] : List UInt8))))) else (if a1 = 4 then (if a0_1 = 0 then (some (decide ((a0_2.size : Int) ≤ 200))) else (some false)) else (if a1 = 1 then ((value_limits.f a1).bind fun bt103 => (if a0_2.toList = ([] : List UInt8) then (if bt103.1 ≤ a0_1 then (some (decide (a0_1 ≤ bt103.2))) else (some false)) else (some false))) else (if a1 = 2 then ((value_limits.f a1).bind fun bt105 => (if a0_2.toList = ([] : List UInt8) then (if bt105.1 ≤ a0_1 then (some (decide (a0_1 ≤ bt105.2))) else (some false)) else (some false))) else (if a1 = 3 then ((value_limits.f a1).bind fun bt107 => (if a0_2.toList = ([] : List UInt8) then (if bt107.1 ≤ a0_1 then (some (decide (a0_1 ≤ bt107.2))) else (some false)) else (some false))) else (if a1 = 5 then ((value_limits.f a1).bind fun bt109 => (if a0_2.toList = ([] : List UInt8) then (if bt109.1 ≤ a0_1 then (some (decide (a0_1 ≤ bt109.2))) else (some false)) else (some false))) else (some false))))))) else (some false))) = some r := h
 clear h
 replace H := Option.bind_eq_some_iff.mp H
 obtain ⟨t102, A30, H⟩ := H
 (try dsimp only at H)
 have A3 := Aside0.mk A30
 clear A30
 by_cases c4 : t102 = true
 rotate_left
 ·replace c4 := Bool.eq_false_iff.mpr c4
  subst c4
  rw [if_neg (show ¬ (false = true) by decide)] at H
  obtain rfl := Option.some.inj H
  go_enter Tryd.func14, Tryd.ntmps14
  go_wp2_with (first | ((with_reducible refine gate_dst (N := 2) rfl ?_); (try (refine gate_guard (by rfl) ?_; dsimp only)); refine box_event ?hg (N := 2) ?hd (cs := #[.bool a0_0, .int .i64 a0_1, .string a0_2]) (t := 25) ?hr ?_; (case hd => rfl); (case hg => rfl); (case hr => first | (go_simp; done) | (go_simp; rfl)); intro gb101 hg w56 hbox hb; have n0_ := Aside0.mk (below_step (xW HB.out) hb); have n3_ := Aside0.mk ((by rw [hg]; exact (below_size (xW HB.out)) : w.heap.size ≤ gb101)); clear HB; revert n0_ n3_; intro HB GE101; clear hb hbox hg) | ((with_reducible refine gate_callee (f := 26) rfl ?_); refine goesL_ (some 9) rfl rfl Tryd.func26 (by kernel_rfl) rfl #[.int .i64 a1] rfl (by (try simp only [List.map_toArray, List.map_cons, List.map_nil]) <;> rfl) ?_; (with_reducible refine (value_isType.calls a1 false _ A3.out).mono ?_); rintro e w' ⟨rfl, ⟨nd, rfl⟩⟩; refine ⟨_, rfl, ?_⟩))
  go_ret
  exact ⟨by first | rfl | simp [*], by repeat (first | (with_reducible first | exact HB.out | apply below_alloc | apply pw_below_drewN | apply below_drew1 | refine below_set ?_ GE101.out) | exact HB.out)⟩
 subst c4
 rw [if_pos rfl] at H
 by_cases c5 : a0_0 = true
 ·subst c5
  rw [if_pos rfl] at H
  obtain rfl := Option.some.inj H
  go_enter Tryd.func14, Tryd.ntmps14
  go_wp2_with (first | ((with_reducible refine gate_dst (N := 2) rfl ?_); (try (refine gate_guard (by rfl) ?_; dsimp only)); refine box_event ?hg (N := 2) ?hd (cs := #[.bool true, .int .i64 a0_1, .string a0_2]) (t := 25) ?hr ?_; (case hd => rfl); (case hg => rfl); (case hr => first | (go_simp; done) | (go_simp; rfl)); intro gb101 hg w6 hbox hb; have n0_ := Aside0.mk (below_step (xW HB.out) hb); have n1_ := Aside0.mk (hbox); have n3_ := Aside0.mk ((by rw [hg]; exact (below_size (xW HB.out)) : w.heap.size ≤ gb101)); clear HB; revert n0_ n1_ n3_; intro HB BK101 GE101; clear hb hbox hg) | ((with_reducible refine gate_callee (f := 26) rfl ?_); refine goesL_ (some 9) rfl rfl Tryd.func26 (by kernel_rfl) rfl #[.int .i64 a1] rfl (by (try simp only [List.map_toArray, List.map_cons, List.map_nil]) <;> rfl) ?_; (with_reducible refine (value_isType.calls a1 true _ A3.out).mono ?_); rintro e w' ⟨rfl, ⟨nd, rfl⟩⟩; refine ⟨_, rfl, ?_⟩; have hcz7_0 : w6.cell? ⟨gb101, 0, none⟩ = some (.bool true) := (blk_cell BK101.out 0).trans rfl; have hcz7_1 : w6.cell? ⟨gb101, 1, none⟩ = some (.int .i64 a0_1) := (blk_cell BK101.out 1).trans rfl; have hcz7_2 : w6.cell? ⟨gb101, 2, none⟩ = some (.string a0_2) := (blk_cell BK101.out 2).trans rfl; have hfz7_0 := blk_frozen BK101.out 0; have hfz7_1 := blk_frozen BK101.out 1; have hfz7_2 := blk_frozen BK101.out 2))
  go_ret
  exact ⟨by first | rfl | simp [*], by repeat (first | (with_reducible first | exact HB.out | apply below_alloc | apply pw_below_drewN | apply below_drew1 | refine below_set ?_ GE101.out) | exact HB.out)⟩
 ·replace c5 := Bool.eq_false_iff.mpr c5
  subst c5
  rw [if_neg (show ¬ (false = true) by decide)] at H
  by_cases c8 : a1 = 4
  ·rw [if_pos c8] at H
   have c8b0 : (a1 == 4) = true := beq_iff_eq.mpr c8
   have c8b1 : (a1 != 4) = false := bne_eq_false_iff_eq.mpr c8
   clear c8
   by_cases c9 : a0_1 = 0
   rotate_left
   ·rw [if_neg c9] at H
    have c9b0 : (a0_1 == 0) = false := beq_eq_false_iff_ne.mpr c9
    have c9b1 : (a0_1 != 0) = true := bne_iff_ne.mpr c9
    obtain rfl := Option.some.inj H
    go_enter Tryd.func14, Tryd.ntmps14
    go_wp2_with (first | ((with_reducible refine gate_dst (N := 2) rfl ?_); (try (refine gate_guard (by rfl) ?_; dsimp only)); refine box_event ?hg (N := 2) ?hd (cs := #[.bool false, .int .i64 a0_1, .string a0_2]) (t := 25) ?hr ?_; (case hd => rfl); (case hg => rfl); (case hr => first | (go_simp; done) | (go_simp; rfl)); intro gb101 hg w12 hbox hb; have n0_ := Aside0.mk (below_step (xW HB.out) hb); have n1_ := Aside0.mk (hbox); have n3_ := Aside0.mk ((by rw [hg]; exact (below_size (xW HB.out)) : w.heap.size ≤ gb101)); clear HB; revert n0_ n1_ n3_; intro HB BK101 GE101; clear hb hbox hg) | ((with_reducible refine gate_callee (f := 26) rfl ?_); refine goesL_ (some 9) rfl rfl Tryd.func26 (by kernel_rfl) rfl #[.int .i64 a1] rfl (by (try simp only [List.map_toArray, List.map_cons, List.map_nil]) <;> rfl) ?_; (with_reducible refine (value_isType.calls a1 true _ A3.out).mono ?_); rintro e w' ⟨rfl, ⟨nd, rfl⟩⟩; refine ⟨_, rfl, ?_⟩; have hcz13_0 : w12.cell? ⟨gb101, 0, none⟩ = some (.bool false) := (blk_cell BK101.out 0).trans rfl; have hcz13_1 : w12.cell? ⟨gb101, 1, none⟩ = some (.int .i64 a0_1) := (blk_cell BK101.out 1).trans rfl; have hcz13_2 : w12.cell? ⟨gb101, 2, none⟩ = some (.string a0_2) := (blk_cell BK101.out 2).trans rfl; have hfz13_0 := blk_frozen BK101.out 0; have hfz13_1 := blk_frozen BK101.out 1; have hfz13_2 := blk_frozen BK101.out 2))
    go_ret
    exact ⟨by first | rfl | simp [*], by repeat (first | (with_reducible first | exact HB.out | apply below_alloc | apply pw_below_drewN | apply below_drew1 | refine below_set ?_ GE101.out) | exact HB.out)⟩
   rw [if_pos c9] at H
   have c9b0 : (a0_1 == 0) = true := beq_iff_eq.mpr c9
   have c9b1 : (a0_1 != 0) = false := bne_eq_false_iff_eq.mpr c9
   clear c9
   obtain rfl := Option.some.inj H
   go_enter Tryd.func14, Tryd.ntmps14
   go_wp2_with (first | ((with_reducible refine gate_dst (N := 2) rfl ?_); (try (refine gate_guard (by rfl) ?_; dsimp only)); refine box_event ?hg (N := 2) ?hd (cs := #[.bool false, .int .i64 a0_1, .string a0_2]) (t := 25) ?hr ?_; (case hd => rfl); (case hg => rfl); (case hr => first | (go_simp; done) | (go_simp; rfl)); intro gb101 hg w10 hbox hb; have n0_ := Aside0.mk (below_step (xW HB.out) hb); have n1_ := Aside0.mk (hbox); have n3_ := Aside0.mk ((by rw [hg]; exact (below_size (xW HB.out)) : w.heap.size ≤ gb101)); clear HB; revert n0_ n1_ n3_; intro HB BK101 GE101; clear hb hbox hg) | ((with_reducible refine gate_callee (f := 26) rfl ?_); refine goesL_ (some 9) rfl rfl Tryd.func26 (by kernel_rfl) rfl #[.int .i64 a1] rfl (by (try simp only [List.map_toArray, List.map_cons, List.map_nil]) <;> rfl) ?_; (with_reducible refine (value_isType.calls a1 true _ A3.out).mono ?_); rintro e w' ⟨rfl, ⟨nd, rfl⟩⟩; refine ⟨_, rfl, ?_⟩; have hcz11_0 : w10.cell? ⟨gb101, 0, none⟩ = some (.bool false) := (blk_cell BK101.out 0).trans rfl; have hcz11_1 : w10.cell? ⟨gb101, 1, none⟩ = some (.int .i64 a0_1) := (blk_cell BK101.out 1).trans rfl; have hcz11_2 : w10.cell? ⟨gb101, 2, none⟩ = some (.string a0_2) := (blk_cell BK101.out 2).trans rfl; have hfz11_0 := blk_frozen BK101.out 0; have hfz11_1 := blk_frozen BK101.out 1; have hfz11_2 := blk_frozen BK101.out 2))
   go_ret
   exact ⟨by first | rfl | simp [*], by repeat (first | (with_reducible first | exact HB.out | apply below_alloc | apply pw_below_drewN | apply below_drew1 | refine below_set ?_ GE101.out) | exact HB.out)⟩
  ·rw [if_neg c8] at H
   have c8b0 : (a1 == 4) = false := beq_eq_false_iff_ne.mpr c8
   have c8b1 : (a1 != 4) = true := bne_iff_ne.mpr c8
   by_cases c14 : a1 = 1
   ·rw [if_pos c14] at H
    have c14b0 : (a1 == 1) = true := beq_iff_eq.mpr c14
    have c14b1 : (a1 != 1) = false := bne_eq_false_iff_eq.mpr c14
    clear c14
    replace H := Option.bind_eq_some_iff.mp H
    obtain ⟨⟨t103, t104⟩, A150, H⟩ := H
    (try dsimp only at H)
    have A15 := Aside0.mk A150
    clear A150
    by_cases c16 : a0_2.toList = ([] : List UInt8)
    rotate_left
    ·rw [if_neg c16] at H
     have c16b0 : (a0_2.toList == ([] : List UInt8)) = false := beq_eq_false_iff_ne.mpr c16
     have c16b1 : (a0_2.toList != ([] : List UInt8)) = true := bne_iff_ne.mpr c16
     obtain rfl := Option.some.inj H
     go_enter Tryd.func14, Tryd.ntmps14
     go_wp2_with (first | ((with_reducible refine gate_dst (N := 2) rfl ?_); (try (refine gate_guard (by rfl) ?_; dsimp only)); refine box_event ?hg (N := 2) ?hd (cs := #[.bool false, .int .i64 a0_1, .string a0_2]) (t := 25) ?hr ?_; (case hd => rfl); (case hg => rfl); (case hr => first | (go_simp; done) | (go_simp; rfl)); intro gb101 hg w22 hbox hb; have n0_ := Aside0.mk (below_step (xW HB.out) hb); have n1_ := Aside0.mk (hbox); have n3_ := Aside0.mk ((by rw [hg]; exact (below_size (xW HB.out)) : w.heap.size ≤ gb101)); clear HB; revert n0_ n1_ n3_; intro HB BK101 GE101; clear hb hbox hg) | ((with_reducible refine gate_callee (f := 26) rfl ?_); refine goesL_ (some 9) rfl rfl Tryd.func26 (by kernel_rfl) rfl #[.int .i64 a1] rfl (by (try simp only [List.map_toArray, List.map_cons, List.map_nil]) <;> rfl) ?_; (with_reducible refine (value_isType.calls a1 true _ A3.out).mono ?_); rintro e w' ⟨rfl, ⟨nd, rfl⟩⟩; refine ⟨_, rfl, ?_⟩; have hcz23_0 : w22.cell? ⟨gb101, 0, none⟩ = some (.bool false) := (blk_cell BK101.out 0).trans rfl; have hcz23_1 : w22.cell? ⟨gb101, 1, none⟩ = some (.int .i64 a0_1) := (blk_cell BK101.out 1).trans rfl; have hcz23_2 : w22.cell? ⟨gb101, 2, none⟩ = some (.string a0_2) := (blk_cell BK101.out 2).trans rfl; have hfz23_0 := blk_frozen BK101.out 0; have hfz23_1 := blk_frozen BK101.out 1; have hfz23_2 := blk_frozen BK101.out 2) | ((with_reducible refine gate_callee (f := 35) rfl ?_); refine goesL_ (some 37) rfl rfl Tryd.func35 (by kernel_rfl) rfl #[.int .i64 a1] rfl (by (try simp only [List.map_toArray, List.map_cons, List.map_nil]) <;> rfl) ?_; (with_reducible refine (value_limits.calls a1 t103 t104 _ A15.out).mono ?_); rintro e w' ⟨rfl, ⟨nd, rfl⟩⟩; refine ⟨_, rfl, ?_⟩))
     go_ret
     exact ⟨by first | rfl | simp [*], by repeat (first | (with_reducible first | exact HB.out | apply below_alloc | apply pw_below_drewN | apply below_drew1 | refine below_set ?_ GE101.out) | exact HB.out)⟩
    rw [if_pos c16] at H
    have c16b0 : (a0_2.toList == ([] : List UInt8)) = true := beq_iff_eq.mpr c16
    have c16b1 : (a0_2.toList != ([] : List UInt8)) = false := bne_eq_false_iff_eq.mpr c16
    clear c16
    by_cases c17 : t103 ≤ a0_1
    rotate_left
    ·rw [if_neg c17] at H
     have c17b0 : decide (t103 ≤ a0_1) = false := decide_eq_false c17
     clear c17
     obtain rfl := Option.some.inj H
     go_enter Tryd.func14, Tryd.ntmps14
     go_wp2_with (first | ((with_reducible refine gate_dst (N := 2) rfl ?_); (try (refine gate_guard (by rfl) ?_; dsimp only)); refine box_event ?hg (N := 2) ?hd (cs := #[.bool false, .int .i64 a0_1, .string a0_2]) (t := 25) ?hr ?_; (case hd => rfl); (case hg => rfl); (case hr => first | (go_simp; done) | (go_simp; rfl)); intro gb101 hg w20 hbox hb; have n0_ := Aside0.mk (below_step (xW HB.out) hb); have n1_ := Aside0.mk (hbox); have n3_ := Aside0.mk ((by rw [hg]; exact (below_size (xW HB.out)) : w.heap.size ≤ gb101)); clear HB; revert n0_ n1_ n3_; intro HB BK101 GE101; clear hb hbox hg) | ((with_reducible refine gate_callee (f := 26) rfl ?_); refine goesL_ (some 9) rfl rfl Tryd.func26 (by kernel_rfl) rfl #[.int .i64 a1] rfl (by (try simp only [List.map_toArray, List.map_cons, List.map_nil]) <;> rfl) ?_; (with_reducible refine (value_isType.calls a1 true _ A3.out).mono ?_); rintro e w' ⟨rfl, ⟨nd, rfl⟩⟩; refine ⟨_, rfl, ?_⟩; have hcz21_0 : w20.cell? ⟨gb101, 0, none⟩ = some (.bool false) := (blk_cell BK101.out 0).trans rfl; have hcz21_1 : w20.cell? ⟨gb101, 1, none⟩ = some (.int .i64 a0_1) := (blk_cell BK101.out 1).trans rfl; have hcz21_2 : w20.cell? ⟨gb101, 2, none⟩ = some (.string a0_2) := (blk_cell BK101.out 2).trans rfl; have hfz21_0 := blk_frozen BK101.out 0; have hfz21_1 := blk_frozen BK101.out 1; have hfz21_2 := blk_frozen BK101.out 2) | ((with_reducible refine gate_callee (f := 35) rfl ?_); refine goesL_ (some 37) rfl rfl Tryd.func35 (by kernel_rfl) rfl #[.int .i64 a1] rfl (by (try simp only [List.map_toArray, List.map_cons, List.map_nil]) <;> rfl) ?_; (with_reducible refine (value_limits.calls a1 t103 t104 _ A15.out).mono ?_); rintro e w' ⟨rfl, ⟨nd, rfl⟩⟩; refine ⟨_, rfl, ?_⟩))
     go_ret
     exact ⟨by first | rfl | simp [*], by repeat (first | (with_reducible first | exact HB.out | apply below_alloc | apply pw_below_drewN | apply below_drew1 | refine below_set ?_ GE101.out) | exact HB.out)⟩
    rw [if_pos c17] at H
    have c17b0 : decide (t103 ≤ a0_1) = true := decide_eq_true c17
    clear c17
    obtain rfl := Option.some.inj H
    go_enter Tryd.func14, Tryd.ntmps14
    go_wp2_with (first | ((with_reducible refine gate_dst (N := 2) rfl ?_); (try (refine gate_guard (by rfl) ?_; dsimp only)); refine box_event ?hg (N := 2) ?hd (cs := #[.bool false, .int .i64 a0_1, .string a0_2]) (t := 25) ?hr ?_; (case hd => rfl); (case hg => rfl); (case hr => first | (go_simp; done) | (go_simp; rfl)); intro gb101 hg w18 hbox hb; have n0_ := Aside0.mk (below_step (xW HB.out) hb); have n1_ := Aside0.mk (hbox); have n3_ := Aside0.mk ((by rw [hg]; exact (below_size (xW HB.out)) : w.heap.size ≤ gb101)); clear HB; revert n0_ n1_ n3_; intro HB BK101 GE101; clear hb hbox hg) | ((with_reducible refine gate_callee (f := 26) rfl ?_); refine goesL_ (some 9) rfl rfl Tryd.func26 (by kernel_rfl) rfl #[.int .i64 a1] rfl (by (try simp only [List.map_toArray, List.map_cons, List.map_nil]) <;> rfl) ?_; (with_reducible refine (value_isType.calls a1 true _ A3.out).mono ?_); rintro e w' ⟨rfl, ⟨nd, rfl⟩⟩; refine ⟨_, rfl, ?_⟩; have hcz19_0 : w18.cell? ⟨gb101, 0, none⟩ = some (.bool false) := (blk_cell BK101.out 0).trans rfl; have hcz19_1 : w18.cell? ⟨gb101, 1, none⟩ = some (.int .i64 a0_1) := (blk_cell BK101.out 1).trans rfl; have hcz19_2 : w18.cell? ⟨gb101, 2, none⟩ = some (.string a0_2) := (blk_cell BK101.out 2).trans rfl; have hfz19_0 := blk_frozen BK101.out 0; have hfz19_1 := blk_frozen BK101.out 1; have hfz19_2 := blk_frozen BK101.out 2) | ((with_reducible refine gate_callee (f := 35) rfl ?_); refine goesL_ (some 37) rfl rfl Tryd.func35 (by kernel_rfl) rfl #[.int .i64 a1] rfl (by (try simp only [List.map_toArray, List.map_cons, List.map_nil]) <;> rfl) ?_; (with_reducible refine (value_limits.calls a1 t103 t104 _ A15.out).mono ?_); rintro e w' ⟨rfl, ⟨nd, rfl⟩⟩; refine ⟨_, rfl, ?_⟩))
    go_ret
    exact ⟨by first | rfl | simp [*], by repeat (first | (with_reducible first | exact HB.out | apply below_alloc | apply pw_below_drewN | apply below_drew1 | refine below_set ?_ GE101.out) | exact HB.out)⟩
   ·rw [if_neg c14] at H
    have c14b0 : (a1 == 1) = false := beq_eq_false_iff_ne.mpr c14
    have c14b1 : (a1 != 1) = true := bne_iff_ne.mpr c14
    by_cases c24 : a1 = 2
    ·rw [if_pos c24] at H
     have c24b0 : (a1 == 2) = true := beq_iff_eq.mpr c24
     have c24b1 : (a1 != 2) = false := bne_eq_false_iff_eq.mpr c24
     clear c24
     replace H := Option.bind_eq_some_iff.mp H
     obtain ⟨⟨t105, t106⟩, A250, H⟩ := H
     (try dsimp only at H)
     have A25 := Aside0.mk A250
     clear A250
     by_cases c26 : a0_2.toList = ([] : List UInt8)
     rotate_left
     ·rw [if_neg c26] at H
      have c26b0 : (a0_2.toList == ([] : List UInt8)) = false := beq_eq_false_iff_ne.mpr c26
      have c26b1 : (a0_2.toList != ([] : List UInt8)) = true := bne_iff_ne.mpr c26
      obtain rfl := Option.some.inj H
      go_enter Tryd.func14, Tryd.ntmps14
      go_wp2_with (first | ((with_reducible refine gate_dst (N := 2) rfl ?_); (try (refine gate_guard (by rfl) ?_; dsimp only)); refine box_event ?hg (N := 2) ?hd (cs := #[.bool false, .int .i64 a0_1, .string a0_2]) (t := 25) ?hr ?_; (case hd => rfl); (case hg => rfl); (case hr => first | (go_simp; done) | (go_simp; rfl)); intro gb101 hg w32 hbox hb; have n0_ := Aside0.mk (below_step (xW HB.out) hb); have n1_ := Aside0.mk (hbox); have n3_ := Aside0.mk ((by rw [hg]; exact (below_size (xW HB.out)) : w.heap.size ≤ gb101)); clear HB; revert n0_ n1_ n3_; intro HB BK101 GE101; clear hb hbox hg) | ((with_reducible refine gate_callee (f := 26) rfl ?_); refine goesL_ (some 9) rfl rfl Tryd.func26 (by kernel_rfl) rfl #[.int .i64 a1] rfl (by (try simp only [List.map_toArray, List.map_cons, List.map_nil]) <;> rfl) ?_; (with_reducible refine (value_isType.calls a1 true _ A3.out).mono ?_); rintro e w' ⟨rfl, ⟨nd, rfl⟩⟩; refine ⟨_, rfl, ?_⟩; have hcz33_0 : w32.cell? ⟨gb101, 0, none⟩ = some (.bool false) := (blk_cell BK101.out 0).trans rfl; have hcz33_1 : w32.cell? ⟨gb101, 1, none⟩ = some (.int .i64 a0_1) := (blk_cell BK101.out 1).trans rfl; have hcz33_2 : w32.cell? ⟨gb101, 2, none⟩ = some (.string a0_2) := (blk_cell BK101.out 2).trans rfl; have hfz33_0 := blk_frozen BK101.out 0; have hfz33_1 := blk_frozen BK101.out 1; have hfz33_2 := blk_frozen BK101.out 2) | ((with_reducible refine gate_callee (f := 35) rfl ?_); refine goesL_ (some 37) rfl rfl Tryd.func35 (by kernel_rfl) rfl #[.int .i64 a1] rfl (by (try simp only [List.map_toArray, List.map_cons, List.map_nil]) <;> rfl) ?_; (with_reducible refine (value_limits.calls a1 t105 t106 _ A25.out).mono ?_); rintro e w' ⟨rfl, ⟨nd, rfl⟩⟩; refine ⟨_, rfl, ?_⟩))
      go_ret
      exact ⟨by first | rfl | simp [*], by repeat (first | (with_reducible first | exact HB.out | apply below_alloc | apply pw_below_drewN | apply below_drew1 | refine below_set ?_ GE101.out) | exact HB.out)⟩
     rw [if_pos c26] at H
     have c26b0 : (a0_2.toList == ([] : List UInt8)) = true := beq_iff_eq.mpr c26
     have c26b1 : (a0_2.toList != ([] : List UInt8)) = false := bne_eq_false_iff_eq.mpr c26
     clear c26
     by_cases c27 : t105 ≤ a0_1
     rotate_left
     ·rw [if_neg c27] at H
      have c27b0 : decide (t105 ≤ a0_1) = false := decide_eq_false c27
      clear c27
      obtain rfl := Option.some.inj H
      go_enter Tryd.func14, Tryd.ntmps14
      go_wp2_with (first | ((with_reducible refine gate_dst (N := 2) rfl ?_); (try (refine gate_guard (by rfl) ?_; dsimp only)); refine box_event ?hg (N := 2) ?hd (cs := #[.bool false, .int .i64 a0_1, .string a0_2]) (t := 25) ?hr ?_; (case hd => rfl); (case hg => rfl); (case hr => first | (go_simp; done) | (go_simp; rfl)); intro gb101 hg w30 hbox hb; have n0_ := Aside0.mk (below_step (xW HB.out) hb); have n1_ := Aside0.mk (hbox); have n3_ := Aside0.mk ((by rw [hg]; exact (below_size (xW HB.out)) : w.heap.size ≤ gb101)); clear HB; revert n0_ n1_ n3_; intro HB BK101 GE101; clear hb hbox hg) | ((with_reducible refine gate_callee (f := 26) rfl ?_); refine goesL_ (some 9) rfl rfl Tryd.func26 (by kernel_rfl) rfl #[.int .i64 a1] rfl (by (try simp only [List.map_toArray, List.map_cons, List.map_nil]) <;> rfl) ?_; (with_reducible refine (value_isType.calls a1 true _ A3.out).mono ?_); rintro e w' ⟨rfl, ⟨nd, rfl⟩⟩; refine ⟨_, rfl, ?_⟩; have hcz31_0 : w30.cell? ⟨gb101, 0, none⟩ = some (.bool false) := (blk_cell BK101.out 0).trans rfl; have hcz31_1 : w30.cell? ⟨gb101, 1, none⟩ = some (.int .i64 a0_1) := (blk_cell BK101.out 1).trans rfl; have hcz31_2 : w30.cell? ⟨gb101, 2, none⟩ = some (.string a0_2) := (blk_cell BK101.out 2).trans rfl; have hfz31_0 := blk_frozen BK101.out 0; have hfz31_1 := blk_frozen BK101.out 1; have hfz31_2 := blk_frozen BK101.out 2) | ((with_reducible refine gate_callee (f := 35) rfl ?_); refine goesL_ (some 37) rfl rfl Tryd.func35 (by kernel_rfl) rfl #[.int .i64 a1] rfl (by (try simp only [List.map_toArray, List.map_cons, List.map_nil]) <;> rfl) ?_; (with_reducible refine (value_limits.calls a1 t105 t106 _ A25.out).mono ?_); rintro e w' ⟨rfl, ⟨nd, rfl⟩⟩; refine ⟨_, rfl, ?_⟩))
      go_ret
      exact ⟨by first | rfl | simp [*], by repeat (first | (with_reducible first | exact HB.out | apply below_alloc | apply pw_below_drewN | apply below_drew1 | refine below_set ?_ GE101.out) | exact HB.out)⟩
     rw [if_pos c27] at H
     have c27b0 : decide (t105 ≤ a0_1) = true := decide_eq_true c27
     clear c27
     obtain rfl := Option.some.inj H
     go_enter Tryd.func14, Tryd.ntmps14
     go_wp2_with (first | ((with_reducible refine gate_dst (N := 2) rfl ?_); (try (refine gate_guard (by rfl) ?_; dsimp only)); refine box_event ?hg (N := 2) ?hd (cs := #[.bool false, .int .i64 a0_1, .string a0_2]) (t := 25) ?hr ?_; (case hd => rfl); (case hg => rfl); (case hr => first | (go_simp; done) | (go_simp; rfl)); intro gb101 hg w28 hbox hb; have n0_ := Aside0.mk (below_step (xW HB.out) hb); have n1_ := Aside0.mk (hbox); have n3_ := Aside0.mk ((by rw [hg]; exact (below_size (xW HB.out)) : w.heap.size ≤ gb101)); clear HB; revert n0_ n1_ n3_; intro HB BK101 GE101; clear hb hbox hg) | ((with_reducible refine gate_callee (f := 26) rfl ?_); refine goesL_ (some 9) rfl rfl Tryd.func26 (by kernel_rfl) rfl #[.int .i64 a1] rfl (by (try simp only [List.map_toArray, List.map_cons, List.map_nil]) <;> rfl) ?_; (with_reducible refine (value_isType.calls a1 true _ A3.out).mono ?_); rintro e w' ⟨rfl, ⟨nd, rfl⟩⟩; refine ⟨_, rfl, ?_⟩; have hcz29_0 : w28.cell? ⟨gb101, 0, none⟩ = some (.bool false) := (blk_cell BK101.out 0).trans rfl; have hcz29_1 : w28.cell? ⟨gb101, 1, none⟩ = some (.int .i64 a0_1) := (blk_cell BK101.out 1).trans rfl; have hcz29_2 : w28.cell? ⟨gb101, 2, none⟩ = some (.string a0_2) := (blk_cell BK101.out 2).trans rfl; have hfz29_0 := blk_frozen BK101.out 0; have hfz29_1 := blk_frozen BK101.out 1; have hfz29_2 := blk_frozen BK101.out 2) | ((with_reducible refine gate_callee (f := 35) rfl ?_); refine goesL_ (some 37) rfl rfl Tryd.func35 (by kernel_rfl) rfl #[.int .i64 a1] rfl (by (try simp only [List.map_toArray, List.map_cons, List.map_nil]) <;> rfl) ?_; (with_reducible refine (value_limits.calls a1 t105 t106 _ A25.out).mono ?_); rintro e w' ⟨rfl, ⟨nd, rfl⟩⟩; refine ⟨_, rfl, ?_⟩))
     go_ret
     exact ⟨by first | rfl | simp [*], by repeat (first | (with_reducible first | exact HB.out | apply below_alloc | apply pw_below_drewN | apply below_drew1 | refine below_set ?_ GE101.out) | exact HB.out)⟩
    ·rw [if_neg c24] at H
     have c24b0 : (a1 == 2) = false := beq_eq_false_iff_ne.mpr c24
     have c24b1 : (a1 != 2) = true := bne_iff_ne.mpr c24
     by_cases c34 : a1 = 3
     ·rw [if_pos c34] at H
      have c34b0 : (a1 == 3) = true := beq_iff_eq.mpr c34
      have c34b1 : (a1 != 3) = false := bne_eq_false_iff_eq.mpr c34
      clear c34
      replace H := Option.bind_eq_some_iff.mp H
      obtain ⟨⟨t107, t108⟩, A350, H⟩ := H
      (try dsimp only at H)
      have A35 := Aside0.mk A350
      clear A350
      by_cases c36 : a0_2.toList = ([] : List UInt8)
      rotate_left
      ·rw [if_neg c36] at H
       have c36b0 : (a0_2.toList == ([] : List UInt8)) = false := beq_eq_false_iff_ne.mpr c36
       have c36b1 : (a0_2.toList != ([] : List UInt8)) = true := bne_iff_ne.mpr c36
       obtain rfl := Option.some.inj H
       go_enter Tryd.func14, Tryd.ntmps14
       go_wp2_with (first | ((with_reducible refine gate_dst (N := 2) rfl ?_); (try (refine gate_guard (by rfl) ?_; dsimp only)); refine box_event ?hg (N := 2) ?hd (cs := #[.bool false, .int .i64 a0_1, .string a0_2]) (t := 25) ?hr ?_; (case hd => rfl); (case hg => rfl); (case hr => first | (go_simp; done) | (go_simp; rfl)); intro gb101 hg w42 hbox hb; have n0_ := Aside0.mk (below_step (xW HB.out) hb); have n1_ := Aside0.mk (hbox); have n3_ := Aside0.mk ((by rw [hg]; exact (below_size (xW HB.out)) : w.heap.size ≤ gb101)); clear HB; revert n0_ n1_ n3_; intro HB BK101 GE101; clear hb hbox hg) | ((with_reducible refine gate_callee (f := 26) rfl ?_); refine goesL_ (some 9) rfl rfl Tryd.func26 (by kernel_rfl) rfl #[.int .i64 a1] rfl (by (try simp only [List.map_toArray, List.map_cons, List.map_nil]) <;> rfl) ?_; (with_reducible refine (value_isType.calls a1 true _ A3.out).mono ?_); rintro e w' ⟨rfl, ⟨nd, rfl⟩⟩; refine ⟨_, rfl, ?_⟩; have hcz43_0 : w42.cell? ⟨gb101, 0, none⟩ = some (.bool false) := (blk_cell BK101.out 0).trans rfl; have hcz43_1 : w42.cell? ⟨gb101, 1, none⟩ = some (.int .i64 a0_1) := (blk_cell BK101.out 1).trans rfl; have hcz43_2 : w42.cell? ⟨gb101, 2, none⟩ = some (.string a0_2) := (blk_cell BK101.out 2).trans rfl; have hfz43_0 := blk_frozen BK101.out 0; have hfz43_1 := blk_frozen BK101.out 1; have hfz43_2 := blk_frozen BK101.out 2) | ((with_reducible refine gate_callee (f := 35) rfl ?_); refine goesL_ (some 37) rfl rfl Tryd.func35 (by kernel_rfl) rfl #[.int .i64 a1] rfl (by (try simp only [List.map_toArray, List.map_cons, List.map_nil]) <;> rfl) ?_; (with_reducible refine (value_limits.calls a1 t107 t108 _ A35.out).mono ?_); rintro e w' ⟨rfl, ⟨nd, rfl⟩⟩; refine ⟨_, rfl, ?_⟩))
       go_ret
       exact ⟨by first | rfl | simp [*], by repeat (first | (with_reducible first | exact HB.out | apply below_alloc | apply pw_below_drewN | apply below_drew1 | refine below_set ?_ GE101.out) | exact HB.out)⟩
      rw [if_pos c36] at H
      have c36b0 : (a0_2.toList == ([] : List UInt8)) = true := beq_iff_eq.mpr c36
      have c36b1 : (a0_2.toList != ([] : List UInt8)) = false := bne_eq_false_iff_eq.mpr c36
      clear c36
      by_cases c37 : t107 ≤ a0_1
      rotate_left
      ·rw [if_neg c37] at H
       have c37b0 : decide (t107 ≤ a0_1) = false := decide_eq_false c37
       clear c37
       obtain rfl := Option.some.inj H
       go_enter Tryd.func14, Tryd.ntmps14
       go_wp2_with (first | ((with_reducible refine gate_dst (N := 2) rfl ?_); (try (refine gate_guard (by rfl) ?_; dsimp only)); refine box_event ?hg (N := 2) ?hd (cs := #[.bool false, .int .i64 a0_1, .string a0_2]) (t := 25) ?hr ?_; (case hd => rfl); (case hg => rfl); (case hr => first | (go_simp; done) | (go_simp; rfl)); intro gb101 hg w40 hbox hb; have n0_ := Aside0.mk (below_step (xW HB.out) hb); have n1_ := Aside0.mk (hbox); have n3_ := Aside0.mk ((by rw [hg]; exact (below_size (xW HB.out)) : w.heap.size ≤ gb101)); clear HB; revert n0_ n1_ n3_; intro HB BK101 GE101; clear hb hbox hg) | ((with_reducible refine gate_callee (f := 26) rfl ?_); refine goesL_ (some 9) rfl rfl Tryd.func26 (by kernel_rfl) rfl #[.int .i64 a1] rfl (by (try simp only [List.map_toArray, List.map_cons, List.map_nil]) <;> rfl) ?_; (with_reducible refine (value_isType.calls a1 true _ A3.out).mono ?_); rintro e w' ⟨rfl, ⟨nd, rfl⟩⟩; refine ⟨_, rfl, ?_⟩; have hcz41_0 : w40.cell? ⟨gb101, 0, none⟩ = some (.bool false) := (blk_cell BK101.out 0).trans rfl; have hcz41_1 : w40.cell? ⟨gb101, 1, none⟩ = some (.int .i64 a0_1) := (blk_cell BK101.out 1).trans rfl; have hcz41_2 : w40.cell? ⟨gb101, 2, none⟩ = some (.string a0_2) := (blk_cell BK101.out 2).trans rfl; have hfz41_0 := blk_frozen BK101.out 0; have hfz41_1 := blk_frozen BK101.out 1; have hfz41_2 := blk_frozen BK101.out 2) | ((with_reducible refine gate_callee (f := 35) rfl ?_); refine goesL_ (some 37) rfl rfl Tryd.func35 (by kernel_rfl) rfl #[.int .i64 a1] rfl (by (try simp only [List.map_toArray, List.map_cons, List.map_nil]) <;> rfl) ?_; (with_reducible refine (value_limits.calls a1 t107 t108 _ A35.out).mono ?_); rintro e w' ⟨rfl, ⟨nd, rfl⟩⟩; refine ⟨_, rfl, ?_⟩))
       go_ret
       exact ⟨by first | rfl | simp [*], by repeat (first | (with_reducible first | exact HB.out | apply below_alloc | apply pw_below_drewN | apply below_drew1 | refine below_set ?_ GE101.out) | exact HB.out)⟩
      rw [if_pos c37] at H
      have c37b0 : decide (t107 ≤ a0_1) = true := decide_eq_true c37
      clear c37
      obtain rfl := Option.some.inj H
      go_enter Tryd.func14, Tryd.ntmps14
      go_wp2_with (first | ((with_reducible refine gate_dst (N := 2) rfl ?_); (try (refine gate_guard (by rfl) ?_; dsimp only)); refine box_event ?hg (N := 2) ?hd (cs := #[.bool false, .int .i64 a0_1, .string a0_2]) (t := 25) ?hr ?_; (case hd => rfl); (case hg => rfl); (case hr => first | (go_simp; done) | (go_simp; rfl)); intro gb101 hg w38 hbox hb; have n0_ := Aside0.mk (below_step (xW HB.out) hb); have n1_ := Aside0.mk (hbox); have n3_ := Aside0.mk ((by rw [hg]; exact (below_size (xW HB.out)) : w.heap.size ≤ gb101)); clear HB; revert n0_ n1_ n3_; intro HB BK101 GE101; clear hb hbox hg) | ((with_reducible refine gate_callee (f := 26) rfl ?_); refine goesL_ (some 9) rfl rfl Tryd.func26 (by kernel_rfl) rfl #[.int .i64 a1] rfl (by (try simp only [List.map_toArray, List.map_cons, List.map_nil]) <;> rfl) ?_; (with_reducible refine (value_isType.calls a1 true _ A3.out).mono ?_); rintro e w' ⟨rfl, ⟨nd, rfl⟩⟩; refine ⟨_, rfl, ?_⟩; have hcz39_0 : w38.cell? ⟨gb101, 0, none⟩ = some (.bool false) := (blk_cell BK101.out 0).trans rfl; have hcz39_1 : w38.cell? ⟨gb101, 1, none⟩ = some (.int .i64 a0_1) := (blk_cell BK101.out 1).trans rfl; have hcz39_2 : w38.cell? ⟨gb101, 2, none⟩ = some (.string a0_2) := (blk_cell BK101.out 2).trans rfl; have hfz39_0 := blk_frozen BK101.out 0; have hfz39_1 := blk_frozen BK101.out 1; have hfz39_2 := blk_frozen BK101.out 2) | ((with_reducible refine gate_callee (f := 35) rfl ?_); refine goesL_ (some 37) rfl rfl Tryd.func35 (by kernel_rfl) rfl #[.int .i64 a1] rfl (by (try simp only [List.map_toArray, List.map_cons, List.map_nil]) <;> rfl) ?_; (with_reducible refine (value_limits.calls a1 t107 t108 _ A35.out).mono ?_); rintro e w' ⟨rfl, ⟨nd, rfl⟩⟩; refine ⟨_, rfl, ?_⟩))
      go_ret
      exact ⟨by first | rfl | simp [*], by repeat (first | (with_reducible first | exact HB.out | apply below_alloc | apply pw_below_drewN | apply below_drew1 | refine below_set ?_ GE101.out) | exact HB.out)⟩
     ·rw [if_neg c34] at H
      have c34b0 : (a1 == 3) = false := beq_eq_false_iff_ne.mpr c34
      have c34b1 : (a1 != 3) = true := bne_iff_ne.mpr c34
      by_cases c44 : a1 = 5
      rotate_left
      ·rw [if_neg c44] at H
       have c44b0 : (a1 == 5) = false := beq_eq_false_iff_ne.mpr c44
       have c44b1 : (a1 != 5) = true := bne_iff_ne.mpr c44
       obtain rfl := Option.some.inj H
       go_enter Tryd.func14, Tryd.ntmps14
       go_wp2_with (first | ((with_reducible refine gate_dst (N := 2) rfl ?_); (try (refine gate_guard (by rfl) ?_; dsimp only)); refine box_event ?hg (N := 2) ?hd (cs := #[.bool false, .int .i64 a0_1, .string a0_2]) (t := 25) ?hr ?_; (case hd => rfl); (case hg => rfl); (case hr => first | (go_simp; done) | (go_simp; rfl)); intro gb101 hg w54 hbox hb; have n0_ := Aside0.mk (below_step (xW HB.out) hb); have n1_ := Aside0.mk (hbox); have n3_ := Aside0.mk ((by rw [hg]; exact (below_size (xW HB.out)) : w.heap.size ≤ gb101)); clear HB; revert n0_ n1_ n3_; intro HB BK101 GE101; clear hb hbox hg) | ((with_reducible refine gate_callee (f := 26) rfl ?_); refine goesL_ (some 9) rfl rfl Tryd.func26 (by kernel_rfl) rfl #[.int .i64 a1] rfl (by (try simp only [List.map_toArray, List.map_cons, List.map_nil]) <;> rfl) ?_; (with_reducible refine (value_isType.calls a1 true _ A3.out).mono ?_); rintro e w' ⟨rfl, ⟨nd, rfl⟩⟩; refine ⟨_, rfl, ?_⟩; have hcz55_0 : w54.cell? ⟨gb101, 0, none⟩ = some (.bool false) := (blk_cell BK101.out 0).trans rfl; have hcz55_1 : w54.cell? ⟨gb101, 1, none⟩ = some (.int .i64 a0_1) := (blk_cell BK101.out 1).trans rfl; have hcz55_2 : w54.cell? ⟨gb101, 2, none⟩ = some (.string a0_2) := (blk_cell BK101.out 2).trans rfl; have hfz55_0 := blk_frozen BK101.out 0; have hfz55_1 := blk_frozen BK101.out 1; have hfz55_2 := blk_frozen BK101.out 2))
       go_ret
       exact ⟨by first | rfl | simp [*], by repeat (first | (with_reducible first | exact HB.out | apply below_alloc | apply pw_below_drewN | apply below_drew1 | refine below_set ?_ GE101.out) | exact HB.out)⟩
      rw [if_pos c44] at H
      have c44b0 : (a1 == 5) = true := beq_iff_eq.mpr c44
      have c44b1 : (a1 != 5) = false := bne_eq_false_iff_eq.mpr c44
      clear c44
      replace H := Option.bind_eq_some_iff.mp H
      obtain ⟨⟨t109, t110⟩, A450, H⟩ := H
      (try dsimp only at H)
      have A45 := Aside0.mk A450
      clear A450
      by_cases c46 : a0_2.toList = ([] : List UInt8)
      rotate_left
      ·rw [if_neg c46] at H
       have c46b0 : (a0_2.toList == ([] : List UInt8)) = false := beq_eq_false_iff_ne.mpr c46
       have c46b1 : (a0_2.toList != ([] : List UInt8)) = true := bne_iff_ne.mpr c46
       obtain rfl := Option.some.inj H
       go_enter Tryd.func14, Tryd.ntmps14
       go_wp2_with (first | ((with_reducible refine gate_dst (N := 2) rfl ?_); (try (refine gate_guard (by rfl) ?_; dsimp only)); refine box_event ?hg (N := 2) ?hd (cs := #[.bool false, .int .i64 a0_1, .string a0_2]) (t := 25) ?hr ?_; (case hd => rfl); (case hg => rfl); (case hr => first | (go_simp; done) | (go_simp; rfl)); intro gb101 hg w52 hbox hb; have n0_ := Aside0.mk (below_step (xW HB.out) hb); have n1_ := Aside0.mk (hbox); have n3_ := Aside0.mk ((by rw [hg]; exact (below_size (xW HB.out)) : w.heap.size ≤ gb101)); clear HB; revert n0_ n1_ n3_; intro HB BK101 GE101; clear hb hbox hg) | ((with_reducible refine gate_callee (f := 26) rfl ?_); refine goesL_ (some 9) rfl rfl Tryd.func26 (by kernel_rfl) rfl #[.int .i64 a1] rfl (by (try simp only [List.map_toArray, List.map_cons, List.map_nil]) <;> rfl) ?_; (with_reducible refine (value_isType.calls a1 true _ A3.out).mono ?_); rintro e w' ⟨rfl, ⟨nd, rfl⟩⟩; refine ⟨_, rfl, ?_⟩; have hcz53_0 : w52.cell? ⟨gb101, 0, none⟩ = some (.bool false) := (blk_cell BK101.out 0).trans rfl; have hcz53_1 : w52.cell? ⟨gb101, 1, none⟩ = some (.int .i64 a0_1) := (blk_cell BK101.out 1).trans rfl; have hcz53_2 : w52.cell? ⟨gb101, 2, none⟩ = some (.string a0_2) := (blk_cell BK101.out 2).trans rfl; have hfz53_0 := blk_frozen BK101.out 0; have hfz53_1 := blk_frozen BK101.out 1; have hfz53_2 := blk_frozen BK101.out 2) | ((with_reducible refine gate_callee (f := 35) rfl ?_); refine goesL_ (some 37) rfl rfl Tryd.func35 (by kernel_rfl) rfl #[.int .i64 a1] rfl (by (try simp only [List.map_toArray, List.map_cons, List.map_nil]) <;> rfl) ?_; (with_reducible refine (value_limits.calls a1 t109 t110 _ A45.out).mono ?_); rintro e w' ⟨rfl, ⟨nd, rfl⟩⟩; refine ⟨_, rfl, ?_⟩))
       go_ret
       exact ⟨by first | rfl | simp [*], by repeat (first | (with_reducible first | exact HB.out | apply below_alloc | apply pw_below_drewN | apply below_drew1 | refine below_set ?_ GE101.out) | exact HB.out)⟩
      rw [if_pos c46] at H
      have c46b0 : (a0_2.toList == ([] : List UInt8)) = true := beq_iff_eq.mpr c46
      have c46b1 : (a0_2.toList != ([] : List UInt8)) = false := bne_eq_false_iff_eq.mpr c46
      clear c46
      by_cases c47 : t109 ≤ a0_1
      rotate_left
      ·rw [if_neg c47] at H
       have c47b0 : decide (t109 ≤ a0_1) = false := decide_eq_false c47
       clear c47
       obtain rfl := Option.some.inj H
       go_enter Tryd.func14, Tryd.ntmps14
       go_wp2_with (first | ((with_reducible refine gate_dst (N := 2) rfl ?_); (try (refine gate_guard (by rfl) ?_; dsimp only)); refine box_event ?hg (N := 2) ?hd (cs := #[.bool false, .int .i64 a0_1, .string a0_2]) (t := 25) ?hr ?_; (case hd => rfl); (case hg => rfl); (case hr => first | (go_simp; done) | (go_simp; rfl)); intro gb101 hg w50 hbox hb; have n0_ := Aside0.mk (below_step (xW HB.out) hb); have n1_ := Aside0.mk (hbox); have n3_ := Aside0.mk ((by rw [hg]; exact (below_size (xW HB.out)) : w.heap.size ≤ gb101)); clear HB; revert n0_ n1_ n3_; intro HB BK101 GE101; clear hb hbox hg) | ((with_reducible refine gate_callee (f := 26) rfl ?_); refine goesL_ (some 9) rfl rfl Tryd.func26 (by kernel_rfl) rfl #[.int .i64 a1] rfl (by (try simp only [List.map_toArray, List.map_cons, List.map_nil]) <;> rfl) ?_; (with_reducible refine (value_isType.calls a1 true _ A3.out).mono ?_); rintro e w' ⟨rfl, ⟨nd, rfl⟩⟩; refine ⟨_, rfl, ?_⟩; have hcz51_0 : w50.cell? ⟨gb101, 0, none⟩ = some (.bool false) := (blk_cell BK101.out 0).trans rfl; have hcz51_1 : w50.cell? ⟨gb101, 1, none⟩ = some (.int .i64 a0_1) := (blk_cell BK101.out 1).trans rfl; have hcz51_2 : w50.cell? ⟨gb101, 2, none⟩ = some (.string a0_2) := (blk_cell BK101.out 2).trans rfl; have hfz51_0 := blk_frozen BK101.out 0; have hfz51_1 := blk_frozen BK101.out 1; have hfz51_2 := blk_frozen BK101.out 2) | ((with_reducible refine gate_callee (f := 35) rfl ?_); refine goesL_ (some 37) rfl rfl Tryd.func35 (by kernel_rfl) rfl #[.int .i64 a1] rfl (by (try simp only [List.map_toArray, List.map_cons, List.map_nil]) <;> rfl) ?_; (with_reducible refine (value_limits.calls a1 t109 t110 _ A45.out).mono ?_); rintro e w' ⟨rfl, ⟨nd, rfl⟩⟩; refine ⟨_, rfl, ?_⟩))
       go_ret
       exact ⟨by first | rfl | simp [*], by repeat (first | (with_reducible first | exact HB.out | apply below_alloc | apply pw_below_drewN | apply below_drew1 | refine below_set ?_ GE101.out) | exact HB.out)⟩
      rw [if_pos c47] at H
      have c47b0 : decide (t109 ≤ a0_1) = true := decide_eq_true c47
      clear c47
      obtain rfl := Option.some.inj H
      go_enter Tryd.func14, Tryd.ntmps14
      go_wp2_with (first | ((with_reducible refine gate_dst (N := 2) rfl ?_); (try (refine gate_guard (by rfl) ?_; dsimp only)); refine box_event ?hg (N := 2) ?hd (cs := #[.bool false, .int .i64 a0_1, .string a0_2]) (t := 25) ?hr ?_; (case hd => rfl); (case hg => rfl); (case hr => first | (go_simp; done) | (go_simp; rfl)); intro gb101 hg w48 hbox hb; have n0_ := Aside0.mk (below_step (xW HB.out) hb); have n1_ := Aside0.mk (hbox); have n3_ := Aside0.mk ((by rw [hg]; exact (below_size (xW HB.out)) : w.heap.size ≤ gb101)); clear HB; revert n0_ n1_ n3_; intro HB BK101 GE101; clear hb hbox hg) | ((with_reducible refine gate_callee (f := 26) rfl ?_); refine goesL_ (some 9) rfl rfl Tryd.func26 (by kernel_rfl) rfl #[.int .i64 a1] rfl (by (try simp only [List.map_toArray, List.map_cons, List.map_nil]) <;> rfl) ?_; (with_reducible refine (value_isType.calls a1 true _ A3.out).mono ?_); rintro e w' ⟨rfl, ⟨nd, rfl⟩⟩; refine ⟨_, rfl, ?_⟩; have hcz49_0 : w48.cell? ⟨gb101, 0, none⟩ = some (.bool false) := (blk_cell BK101.out 0).trans rfl; have hcz49_1 : w48.cell? ⟨gb101, 1, none⟩ = some (.int .i64 a0_1) := (blk_cell BK101.out 1).trans rfl; have hcz49_2 : w48.cell? ⟨gb101, 2, none⟩ = some (.string a0_2) := (blk_cell BK101.out 2).trans rfl; have hfz49_0 := blk_frozen BK101.out 0; have hfz49_1 := blk_frozen BK101.out 1; have hfz49_2 := blk_frozen BK101.out 2) | ((with_reducible refine gate_callee (f := 35) rfl ?_); refine goesL_ (some 37) rfl rfl Tryd.func35 (by kernel_rfl) rfl #[.int .i64 a1] rfl (by (try simp only [List.map_toArray, List.map_cons, List.map_nil]) <;> rfl) ?_; (with_reducible refine (value_limits.calls a1 t109 t110 _ A45.out).mono ?_); rintro e w' ⟨rfl, ⟨nd, rfl⟩⟩; refine ⟨_, rfl, ?_⟩))
      go_ret
      exact ⟨by first | rfl | simp [*], by repeat (first | (with_reducible first | exact HB.out | apply below_alloc | apply pw_below_drewN | apply below_drew1 | refine below_set ?_ GE101.out) | exact HB.out)⟩
def value_Show.f (a0_0 : Bool) (a0_1 : Int) (a0_2 : ByteArray) (a1 : Int) : Option (ByteArray) := (value_Valid.f a0_0 a0_1 a0_2 a1).bind fun t102 => (if t102 = true then (if a0_0 = true then (some (⟨#[110, 117, 108, 108]⟩ : ByteArray)) else (if a1 = 1 then ((strconv_FormatBool_30.f (a0_1 == 1)).bind fun t103 => (some t103)) else (if a1 = 4 then ((value_quote.f a0_2).bind fun t104 => (some t104)) else (if a1 = 5 then ((value_date.f a0_1).bind fun bt105 => ((value_padded.f bt105.1 4).bind fun t108 => (if t108.size + 1 ≤ 9223372036854775807 then ((value_padded.f bt105.2.1 2).bind fun t109 => (if (t108 ++ (⟨#[45]⟩ : ByteArray)).size + t109.size ≤ 9223372036854775807 then (if ((t108 ++ (⟨#[45]⟩ : ByteArray)) ++ t109).size + 1 ≤ 9223372036854775807 then ((value_padded.f bt105.2.2 2).bind fun t110 => (if (((t108 ++ (⟨#[45]⟩ : ByteArray)) ++ t109) ++ (⟨#[45]⟩ : ByteArray)).size + t110.size ≤ 9223372036854775807 then (some ((((t108 ++ (⟨#[45]⟩ : ByteArray)) ++ t109) ++ (⟨#[45]⟩ : ByteArray)) ++ t110)) else (none))) else (none)) else (none))) else (none)))) else ((strconv_FormatInt_34.f a0_1 10).bind fun t111 => (some t111)))))) else (some (⟨#[]⟩ : ByteArray)))
set_option maxHeartbeats 8000000 in
set_option maxRecDepth 100000 in
theorem value_Show.calls (a0_0 : Bool) (a0_1 : Int) (a0_2 : ByteArray) (a1 : Int) (r : ByteArray) (w : World) (hG : Glob w) (h : value_Show.f a0_0 a0_1 a0_2 a1 = some r) :
  Calls Tryd.prog 13 #[.agg #[.bool a0_0, .int .i64 a0_1, .string a0_2], .int .i64 a1] w fun e w' => e = .returned (.string r) ∧ Below w.heap.size w w' := by
 have HG := Aside0.mk hG
 clear hG
 have hu25 := Tryd.underlying25
 have HB := Aside0.mk (Below.refl w.heap.size w)
 have H : ((value_Valid.f a0_0 a0_1 a0_2 a1).bind fun t102 => (if t102 = true then (if a0_0 = true then (some (⟨#[110, 117, 108, 108]⟩ : ByteArray)) else (if a1 = 1 then ((strconv_FormatBool_30.f (a0_1 == 1)).bind fun t103 => (some t103)) else (if a1 = 4 then ((value_quote.f a0_2).bind fun t104 => (some t104)) else (if a1 = 5 then ((value_date.f a0_1).bind fun bt105 => ((value_padded.f bt105.1 4).bind fun t108 => (if t108.size + 1 ≤ 9223372036854775807 then ((value_padded.f bt105.2.1 2).bind fun t109 => (if (t108 ++ (⟨#[45]⟩ : ByteArray)).size + t109.size ≤ 9223372036854775807 then (if ((t108 ++ (⟨#[45]⟩ : ByteArray)) ++ t109).size + 1 ≤ 9223372036854775807 then ((value_padded.f bt105.2.2 2).bind fun t110 => (if (((t108 ++ (⟨#[45]⟩ : ByteArray)) ++ t109) ++ (⟨#[45]⟩ : ByteArray)).size + t110.size ≤ 9223372036854775807 then (some ((((t108 ++ (⟨#[45]⟩ : ByteArray)) ++ t109) ++ (⟨#[45]⟩ : ByteArray)) ++ t110)) else (none))) else (none)) else (none))) else (none)))) else ((strconv_FormatInt_34.f a0_1 10).bind fun t111 => (some t111)))))) else (some (⟨#[]⟩ : ByteArray)))) = some r := h
 clear h
 replace H := Option.bind_eq_some_iff.mp H
 obtain ⟨t102, A30, H⟩ := H
 (try dsimp only at H)
 have A3 := Aside0.mk A30
 clear A30
 by_cases c4 : t102 = true
 rotate_left
 ·replace c4 := Bool.eq_false_iff.mpr c4
  subst c4
  rw [if_neg (show ¬ (false = true) by decide)] at H
  obtain rfl := Option.some.inj H
  go_enter Tryd.func13, Tryd.ntmps13
  go_wp2_with (first | ((with_reducible refine gate_dst (N := 2) rfl ?_); refine box_event ?hg (N := 2) ?hd (cs := #[.bool a0_0, .int .i64 a0_1, .string a0_2]) (t := 25) ?hr ?_; (case hd => rfl); (case hg => rfl); (case hr => first | (go_simp; done) | (go_simp; rfl)); intro gb101 hg w45 hbox hb; have n0_ := Aside0.mk (below_step (xW HB.out) hb); have n1_ := Aside0.mk (hbox); have n3_ := Aside0.mk ((by rw [hg]; exact (below_size (xW HB.out)) : w.heap.size ≤ gb101)); clear HB; revert n0_ n1_ n3_; intro HB BK101 GE101; clear hb hbox hg; have hcz46_0 : w45.cell? ⟨gb101, 0, none⟩ = some (.bool a0_0) := (blk_cell BK101.out 0).trans rfl; have hcz46_1 : w45.cell? ⟨gb101, 1, none⟩ = some (.int .i64 a0_1) := (blk_cell BK101.out 1).trans rfl; have hcz46_2 : w45.cell? ⟨gb101, 2, none⟩ = some (.string a0_2) := (blk_cell BK101.out 2).trans rfl; have hfz46_0 := blk_frozen BK101.out 0; have hfz46_1 := blk_frozen BK101.out 1; have hfz46_2 := blk_frozen BK101.out 2) | ((with_reducible refine gate_callee (f := 14) rfl ?_); refine goesL_ (some 11) rfl rfl Tryd.func14 (by kernel_rfl) rfl #[.agg #[.bool a0_0, .int .i64 a0_1, .string a0_2], .int .i64 a1] rfl (by (try simp only [List.map_toArray, List.map_cons, List.map_nil]) <;> rfl) ?_; (with_reducible refine (value_Valid.calls a0_0 a0_1 a0_2 a1 false _ A3.out).mono ?_); rintro e w47 ⟨rfl, hb⟩; refine ⟨_, rfl, ?_⟩; have n1_ := Aside0.mk (below_step (xS HB.out (ge GE101.out g0)) hb); clear HB; revert n1_; intro HB; (try clear hb)))
  go_ret
  exact ⟨by first | rfl | simp [*], by repeat (first | (with_reducible first | exact HB.out | apply below_alloc | apply pw_below_drewN | apply below_drew1 | refine below_set ?_ GE101.out) | exact HB.out)⟩
 subst c4
 rw [if_pos rfl] at H
 by_cases c5 : a0_0 = true
 ·subst c5
  rw [if_pos rfl] at H
  obtain rfl := Option.some.inj H
  go_enter Tryd.func13, Tryd.ntmps13
  go_wp2_with (first | ((with_reducible refine gate_dst (N := 2) rfl ?_); refine box_event ?hg (N := 2) ?hd (cs := #[.bool true, .int .i64 a0_1, .string a0_2]) (t := 25) ?hr ?_; (case hd => rfl); (case hg => rfl); (case hr => first | (go_simp; done) | (go_simp; rfl)); intro gb101 hg w6 hbox hb; have n0_ := Aside0.mk (below_step (xW HB.out) hb); have n1_ := Aside0.mk (hbox); have n3_ := Aside0.mk ((by rw [hg]; exact (below_size (xW HB.out)) : w.heap.size ≤ gb101)); clear HB; revert n0_ n1_ n3_; intro HB BK101 GE101; clear hb hbox hg; have hcz7_0 : w6.cell? ⟨gb101, 0, none⟩ = some (.bool true) := (blk_cell BK101.out 0).trans rfl; have hcz7_1 : w6.cell? ⟨gb101, 1, none⟩ = some (.int .i64 a0_1) := (blk_cell BK101.out 1).trans rfl; have hcz7_2 : w6.cell? ⟨gb101, 2, none⟩ = some (.string a0_2) := (blk_cell BK101.out 2).trans rfl; have hfz7_0 := blk_frozen BK101.out 0; have hfz7_1 := blk_frozen BK101.out 1; have hfz7_2 := blk_frozen BK101.out 2) | ((with_reducible refine gate_callee (f := 14) rfl ?_); refine goesL_ (some 11) rfl rfl Tryd.func14 (by kernel_rfl) rfl #[.agg #[.bool true, .int .i64 a0_1, .string a0_2], .int .i64 a1] rfl (by (try simp only [List.map_toArray, List.map_cons, List.map_nil]) <;> rfl) ?_; (with_reducible refine (value_Valid.calls true a0_1 a0_2 a1 true _ A3.out).mono ?_); rintro e w8 ⟨rfl, hb⟩; refine ⟨_, rfl, ?_⟩; have n0_ := Aside0.mk (blk_below (xB BK101.out) hb); have n1_ := Aside0.mk (below_step (xS HB.out (ge GE101.out g0)) hb); clear BK101 HB; revert n0_ n1_; intro BK101 HB; (try clear hb); have hcz9_0 : w8.cell? ⟨gb101, 0, none⟩ = some (.bool true) := (blk_cell BK101.out 0).trans rfl; have hcz9_1 : w8.cell? ⟨gb101, 1, none⟩ = some (.int .i64 a0_1) := (blk_cell BK101.out 1).trans rfl; have hcz9_2 : w8.cell? ⟨gb101, 2, none⟩ = some (.string a0_2) := (blk_cell BK101.out 2).trans rfl; have hfz9_0 := blk_frozen BK101.out 0; have hfz9_1 := blk_frozen BK101.out 1; have hfz9_2 := blk_frozen BK101.out 2))
  go_ret
  exact ⟨by first | rfl | simp [*], by repeat (first | (with_reducible first | exact HB.out | apply below_alloc | apply pw_below_drewN | apply below_drew1 | refine below_set ?_ GE101.out) | exact HB.out)⟩
 ·replace c5 := Bool.eq_false_iff.mpr c5
  subst c5
  rw [if_neg (show ¬ (false = true) by decide)] at H
  by_cases c10 : a1 = 1
  ·rw [if_pos c10] at H
   have c10b0 : (a1 == 1) = true := beq_iff_eq.mpr c10
   have c10b1 : (a1 != 1) = false := bne_eq_false_iff_eq.mpr c10
   clear c10
   replace H := Option.bind_eq_some_iff.mp H
   obtain ⟨t103, A110, H⟩ := H
   replace H : (some t103) = some r := H
   have A11 := Aside0.mk A110
   clear A110
   obtain rfl := Option.some.inj H
   go_enter Tryd.func13, Tryd.ntmps13
   go_wp2_with (first | ((with_reducible refine gate_dst (N := 2) rfl ?_); refine box_event ?hg (N := 2) ?hd (cs := #[.bool false, .int .i64 a0_1, .string a0_2]) (t := 25) ?hr ?_; (case hd => rfl); (case hg => rfl); (case hr => first | (go_simp; done) | (go_simp; rfl)); intro gb101 hg w12 hbox hb; have n0_ := Aside0.mk (below_step (xW HB.out) hb); have n1_ := Aside0.mk (hbox); have n3_ := Aside0.mk ((by rw [hg]; exact (below_size (xW HB.out)) : w.heap.size ≤ gb101)); clear HB; revert n0_ n1_ n3_; intro HB BK101 GE101; clear hb hbox hg; have hcz13_0 : w12.cell? ⟨gb101, 0, none⟩ = some (.bool false) := (blk_cell BK101.out 0).trans rfl; have hcz13_1 : w12.cell? ⟨gb101, 1, none⟩ = some (.int .i64 a0_1) := (blk_cell BK101.out 1).trans rfl; have hcz13_2 : w12.cell? ⟨gb101, 2, none⟩ = some (.string a0_2) := (blk_cell BK101.out 2).trans rfl; have hfz13_0 := blk_frozen BK101.out 0; have hfz13_1 := blk_frozen BK101.out 1; have hfz13_2 := blk_frozen BK101.out 2) | ((with_reducible refine gate_callee (f := 14) rfl ?_); refine goesL_ (some 11) rfl rfl Tryd.func14 (by kernel_rfl) rfl #[.agg #[.bool false, .int .i64 a0_1, .string a0_2], .int .i64 a1] rfl (by (try simp only [List.map_toArray, List.map_cons, List.map_nil]) <;> rfl) ?_; (with_reducible refine (value_Valid.calls false a0_1 a0_2 a1 true _ A3.out).mono ?_); rintro e w14 ⟨rfl, hb⟩; refine ⟨_, rfl, ?_⟩; have n0_ := Aside0.mk (blk_below (xB BK101.out) hb); have n1_ := Aside0.mk (below_step (xS HB.out (ge GE101.out g0)) hb); clear BK101 HB; revert n0_ n1_; intro BK101 HB; (try clear hb); have hcz15_0 : w14.cell? ⟨gb101, 0, none⟩ = some (.bool false) := (blk_cell BK101.out 0).trans rfl; have hcz15_1 : w14.cell? ⟨gb101, 1, none⟩ = some (.int .i64 a0_1) := (blk_cell BK101.out 1).trans rfl; have hcz15_2 : w14.cell? ⟨gb101, 2, none⟩ = some (.string a0_2) := (blk_cell BK101.out 2).trans rfl; have hfz15_0 := blk_frozen BK101.out 0; have hfz15_1 := blk_frozen BK101.out 1; have hfz15_2 := blk_frozen BK101.out 2) | ((with_reducible refine gate_callee (f := 30) rfl ?_); refine goesL_ (some 22) rfl rfl Tryd.func30 (by kernel_rfl) rfl #[.bool (a0_1 == 1)] rfl (by (try simp only [List.map_toArray, List.map_cons, List.map_nil]) <;> rfl) ?_; (with_reducible refine (strconv_FormatBool_30.calls (a0_1 == 1) t103 _ A11.out).mono ?_); rintro e w' ⟨rfl, ⟨nd, rfl⟩⟩; refine ⟨_, rfl, ?_⟩))
   go_ret
   exact ⟨by first | rfl | simp [*], by repeat (first | (with_reducible first | exact HB.out | apply below_alloc | apply pw_below_drewN | apply below_drew1 | refine below_set ?_ GE101.out) | exact HB.out)⟩
  ·rw [if_neg c10] at H
   have c10b0 : (a1 == 1) = false := beq_eq_false_iff_ne.mpr c10
   have c10b1 : (a1 != 1) = true := bne_iff_ne.mpr c10
   by_cases c16 : a1 = 4
   ·rw [if_pos c16] at H
    have c16b0 : (a1 == 4) = true := beq_iff_eq.mpr c16
    have c16b1 : (a1 != 4) = false := bne_eq_false_iff_eq.mpr c16
    clear c16
    replace H := Option.bind_eq_some_iff.mp H
    obtain ⟨t104, A170, H⟩ := H
    replace H : (some t104) = some r := H
    have A17 := Aside0.mk A170
    clear A170
    obtain rfl := Option.some.inj H
    go_enter Tryd.func13, Tryd.ntmps13
    go_wp2_with (first | ((with_reducible refine gate_dst (N := 2) rfl ?_); refine box_event ?hg (N := 2) ?hd (cs := #[.bool false, .int .i64 a0_1, .string a0_2]) (t := 25) ?hr ?_; (case hd => rfl); (case hg => rfl); (case hr => first | (go_simp; done) | (go_simp; rfl)); intro gb101 hg w18 hbox hb; have n0_ := Aside0.mk (below_step (xW HB.out) hb); have n1_ := Aside0.mk (hbox); have n3_ := Aside0.mk ((by rw [hg]; exact (below_size (xW HB.out)) : w.heap.size ≤ gb101)); clear HB; revert n0_ n1_ n3_; intro HB BK101 GE101; clear hb hbox hg; have hcz19_0 : w18.cell? ⟨gb101, 0, none⟩ = some (.bool false) := (blk_cell BK101.out 0).trans rfl; have hcz19_1 : w18.cell? ⟨gb101, 1, none⟩ = some (.int .i64 a0_1) := (blk_cell BK101.out 1).trans rfl; have hcz19_2 : w18.cell? ⟨gb101, 2, none⟩ = some (.string a0_2) := (blk_cell BK101.out 2).trans rfl; have hfz19_0 := blk_frozen BK101.out 0; have hfz19_1 := blk_frozen BK101.out 1; have hfz19_2 := blk_frozen BK101.out 2) | ((with_reducible refine gate_callee (f := 14) rfl ?_); refine goesL_ (some 11) rfl rfl Tryd.func14 (by kernel_rfl) rfl #[.agg #[.bool false, .int .i64 a0_1, .string a0_2], .int .i64 a1] rfl (by (try simp only [List.map_toArray, List.map_cons, List.map_nil]) <;> rfl) ?_; (with_reducible refine (value_Valid.calls false a0_1 a0_2 a1 true _ A3.out).mono ?_); rintro e w20 ⟨rfl, hb⟩; refine ⟨_, rfl, ?_⟩; have n0_ := Aside0.mk (blk_below (xB BK101.out) hb); have n1_ := Aside0.mk (below_step (xS HB.out (ge GE101.out g0)) hb); clear BK101 HB; revert n0_ n1_; intro BK101 HB; (try clear hb); have hcz21_0 : w20.cell? ⟨gb101, 0, none⟩ = some (.bool false) := (blk_cell BK101.out 0).trans rfl; have hcz21_1 : w20.cell? ⟨gb101, 1, none⟩ = some (.int .i64 a0_1) := (blk_cell BK101.out 1).trans rfl; have hcz21_2 : w20.cell? ⟨gb101, 2, none⟩ = some (.string a0_2) := (blk_cell BK101.out 2).trans rfl; have hfz21_0 := blk_frozen BK101.out 0; have hfz21_1 := blk_frozen BK101.out 1; have hfz21_2 := blk_frozen BK101.out 2) | ((with_reducible refine gate_callee (f := 31) rfl ?_); refine goesL_ (some 27) rfl rfl Tryd.func31 (by kernel_rfl) rfl #[.string a0_2] rfl (by (try simp only [List.map_toArray, List.map_cons, List.map_nil]) <;> rfl) ?_; (with_reducible refine (value_quote.calls a0_2 t104 _ A17.out).mono ?_); rintro e w22 ⟨rfl, hb⟩; refine ⟨_, rfl, ?_⟩; have n1_ := Aside0.mk (below_step (xS HB.out (ge GE101.out g0)) hb); clear HB; revert n1_; intro HB; (try clear hb)))
    go_ret
    exact ⟨by first | rfl | simp [*], by repeat (first | (with_reducible first | exact HB.out | apply below_alloc | apply pw_below_drewN | apply below_drew1 | refine below_set ?_ GE101.out) | exact HB.out)⟩
   ·rw [if_neg c16] at H
    have c16b0 : (a1 == 4) = false := beq_eq_false_iff_ne.mpr c16
    have c16b1 : (a1 != 4) = true := bne_iff_ne.mpr c16
    by_cases c23 : a1 = 5
    ·rw [if_pos c23] at H
     have c23b0 : (a1 == 5) = true := beq_iff_eq.mpr c23
     have c23b1 : (a1 != 5) = false := bne_eq_false_iff_eq.mpr c23
     clear c23
     replace H := Option.bind_eq_some_iff.mp H
     obtain ⟨⟨t105, t106, t107⟩, A240, H⟩ := H
     (try dsimp only at H)
     have A24 := Aside0.mk A240
     clear A240
     replace H := Option.bind_eq_some_iff.mp H
     obtain ⟨t108, A250, H⟩ := H
     (try dsimp only at H)
     have A25 := Aside0.mk A250
     clear A250
     by_cases c26 : t108.size + 1 ≤ 9223372036854775807
     rotate_left
     ·rw [if_neg c26] at H
      exact absurd H (by simp)
     rw [if_pos c26] at H
     have c26b0 := eq_true c26
     have c26b1 : decide (t108.size + 1 ≤ 9223372036854775807) = true := decide_eq_true c26
     try have c26b2 : (9223372036854775807 < t108.size + 1) = False := eq_false (Nat.not_lt.2 c26)
     replace H := Option.bind_eq_some_iff.mp H
     obtain ⟨t109, A270, H⟩ := H
     (try dsimp only at H)
     have A27 := Aside0.mk A270
     clear A270
     by_cases c28 : (t108 ++ (⟨#[45]⟩ : ByteArray)).size + t109.size ≤ 9223372036854775807
     rotate_left
     ·rw [if_neg c28] at H
      exact absurd H (by simp)
     rw [if_pos c28] at H
     have c28b0 := eq_true c28
     have c28b1 : decide ((t108 ++ (⟨#[45]⟩ : ByteArray)).size + t109.size ≤ 9223372036854775807) = true := decide_eq_true c28
     try have c28b2 : (9223372036854775807 < (t108 ++ (⟨#[45]⟩ : ByteArray)).size + t109.size) = False := eq_false (Nat.not_lt.2 c28)
     have c28s := c28
     (try simp only [ByteArray.size_append, show (⟨#[45]⟩ : ByteArray).size = 1 from rfl] at c28s)
     have c28sb0 := eq_true c28s
     have c28sb1 := decide_eq_true c28s
     try have c28sb2 := eq_false (Nat.not_lt.2 c28s)
     try have c28sb3 := decide_eq_false (Nat.not_lt.2 c28s)
     clear c28s
     by_cases c29 : ((t108 ++ (⟨#[45]⟩ : ByteArray)) ++ t109).size + 1 ≤ 9223372036854775807
     rotate_left
     ·rw [if_neg c29] at H
      exact absurd H (by simp)
     rw [if_pos c29] at H
     have c29b0 := eq_true c29
     have c29b1 : decide (((t108 ++ (⟨#[45]⟩ : ByteArray)) ++ t109).size + 1 ≤ 9223372036854775807) = true := decide_eq_true c29
     try have c29b2 : (9223372036854775807 < ((t108 ++ (⟨#[45]⟩ : ByteArray)) ++ t109).size + 1) = False := eq_false (Nat.not_lt.2 c29)
     have c29s := c29
     (try simp only [ByteArray.size_append, show (⟨#[45]⟩ : ByteArray).size = 1 from rfl] at c29s)
     have c29sb0 := eq_true c29s
     have c29sb1 := decide_eq_true c29s
     try have c29sb2 := eq_false (Nat.not_lt.2 c29s)
     try have c29sb3 := decide_eq_false (Nat.not_lt.2 c29s)
     clear c29s
     replace H := Option.bind_eq_some_iff.mp H
     obtain ⟨t110, A300, H⟩ := H
     (try dsimp only at H)
     have A30 := Aside0.mk A300
     clear A300
     by_cases c31 : (((t108 ++ (⟨#[45]⟩ : ByteArray)) ++ t109) ++ (⟨#[45]⟩ : ByteArray)).size + t110.size ≤ 9223372036854775807
     rotate_left
     ·rw [if_neg c31] at H
      exact absurd H (by simp)
     rw [if_pos c31] at H
     have c31b0 := eq_true c31
     have c31b1 : decide ((((t108 ++ (⟨#[45]⟩ : ByteArray)) ++ t109) ++ (⟨#[45]⟩ : ByteArray)).size + t110.size ≤ 9223372036854775807) = true := decide_eq_true c31
     try have c31b2 : (9223372036854775807 < (((t108 ++ (⟨#[45]⟩ : ByteArray)) ++ t109) ++ (⟨#[45]⟩ : ByteArray)).size + t110.size) = False := eq_false (Nat.not_lt.2 c31)
     have c31s := c31
     (try simp only [ByteArray.size_append, show (⟨#[45]⟩ : ByteArray).size = 1 from rfl] at c31s)
     have c31sb0 := eq_true c31s
     have c31sb1 := decide_eq_true c31s
     try have c31sb2 := eq_false (Nat.not_lt.2 c31s)
     try have c31sb3 := decide_eq_false (Nat.not_lt.2 c31s)
     clear c31s
     obtain rfl := Option.some.inj H
     go_enter Tryd.func13, Tryd.ntmps13
     go_wp2_with (first | ((with_reducible refine gate_dst (N := 2) rfl ?_); refine box_event ?hg (N := 2) ?hd (cs := #[.bool false, .int .i64 a0_1, .string a0_2]) (t := 25) ?hr ?_; (case hd => rfl); (case hg => rfl); (case hr => first | (go_simp; done) | (go_simp; rfl)); intro gb101 hg w32 hbox hb; have n0_ := Aside0.mk (below_step (xW HB.out) hb); have n1_ := Aside0.mk (hbox); have n3_ := Aside0.mk ((by rw [hg]; exact (below_size (xW HB.out)) : w.heap.size ≤ gb101)); clear HB; revert n0_ n1_ n3_; intro HB BK101 GE101; clear hb hbox hg; have hcz33_0 : w32.cell? ⟨gb101, 0, none⟩ = some (.bool false) := (blk_cell BK101.out 0).trans rfl; have hcz33_1 : w32.cell? ⟨gb101, 1, none⟩ = some (.int .i64 a0_1) := (blk_cell BK101.out 1).trans rfl; have hcz33_2 : w32.cell? ⟨gb101, 2, none⟩ = some (.string a0_2) := (blk_cell BK101.out 2).trans rfl; have hfz33_0 := blk_frozen BK101.out 0; have hfz33_1 := blk_frozen BK101.out 1; have hfz33_2 := blk_frozen BK101.out 2) | ((with_reducible refine gate_callee (f := 14) rfl ?_); refine goesL_ (some 11) rfl rfl Tryd.func14 (by kernel_rfl) rfl #[.agg #[.bool false, .int .i64 a0_1, .string a0_2], .int .i64 a1] rfl (by (try simp only [List.map_toArray, List.map_cons, List.map_nil]) <;> rfl) ?_; (with_reducible refine (value_Valid.calls false a0_1 a0_2 a1 true _ A3.out).mono ?_); rintro e w34 ⟨rfl, hb⟩; refine ⟨_, rfl, ?_⟩; have n0_ := Aside0.mk (blk_below (xB BK101.out) hb); have n1_ := Aside0.mk (below_step (xS HB.out (ge GE101.out g0)) hb); clear BK101 HB; revert n0_ n1_; intro BK101 HB; (try clear hb); have hcz35_0 : w34.cell? ⟨gb101, 0, none⟩ = some (.bool false) := (blk_cell BK101.out 0).trans rfl; have hcz35_1 : w34.cell? ⟨gb101, 1, none⟩ = some (.int .i64 a0_1) := (blk_cell BK101.out 1).trans rfl; have hcz35_2 : w34.cell? ⟨gb101, 2, none⟩ = some (.string a0_2) := (blk_cell BK101.out 2).trans rfl; have hfz35_0 := blk_frozen BK101.out 0; have hfz35_1 := blk_frozen BK101.out 1; have hfz35_2 := blk_frozen BK101.out 2) | ((with_reducible refine gate_callee (f := 32) rfl ?_); refine goesL_ (some 33) rfl rfl Tryd.func32 (by kernel_rfl) rfl #[.int .i64 a0_1] rfl (by (try simp only [List.map_toArray, List.map_cons, List.map_nil]) <;> rfl) ?_; (with_reducible refine (value_date.calls a0_1 t105 t106 t107 _ A24.out).mono ?_); rintro e w' ⟨rfl, ⟨nd, rfl⟩⟩; refine ⟨_, rfl, ?_⟩) | ((with_reducible refine gate_callee (f := 33) rfl ?_); refine goesL_ (some 38) rfl rfl Tryd.func33 (by kernel_rfl) rfl #[.int .i64 t105, .int .i64 4] rfl (by (try simp only [List.map_toArray, List.map_cons, List.map_nil]) <;> rfl) ?_; (with_reducible refine (value_padded.calls (hG := HG.out.at (xS HB.out (ge GE101.out g0))) t105 4 t108 _ A25.out).mono ?_); rintro e w36 ⟨rfl, hb⟩; refine ⟨_, rfl, ?_⟩; have n1_ := Aside0.mk (below_step (xS HB.out (ge GE101.out g0)) hb); clear HB; revert n1_; intro HB; (try clear hb)) | ((with_reducible refine gate_callee (f := 33) rfl ?_); refine goesL_ (some 41) rfl rfl Tryd.func33 (by kernel_rfl) rfl #[.int .i64 t106, .int .i64 2] rfl (by (try simp only [List.map_toArray, List.map_cons, List.map_nil]) <;> rfl) ?_; (with_reducible refine (value_padded.calls (hG := HG.out.at (xS HB.out (ge GE101.out g0))) t106 2 t109 _ A27.out).mono ?_); rintro e w37 ⟨rfl, hb⟩; refine ⟨_, rfl, ?_⟩; have n1_ := Aside0.mk (below_step (xS HB.out (ge GE101.out g0)) hb); clear HB; revert n1_; intro HB; (try clear hb)) | ((with_reducible refine gate_callee (f := 33) rfl ?_); refine goesL_ (some 45) rfl rfl Tryd.func33 (by kernel_rfl) rfl #[.int .i64 t107, .int .i64 2] rfl (by (try simp only [List.map_toArray, List.map_cons, List.map_nil]) <;> rfl) ?_; (with_reducible refine (value_padded.calls (hG := HG.out.at (xS HB.out (ge GE101.out g0))) t107 2 t110 _ A30.out).mono ?_); rintro e w38 ⟨rfl, hb⟩; refine ⟨_, rfl, ?_⟩; have n1_ := Aside0.mk (below_step (xS HB.out (ge GE101.out g0)) hb); clear HB; revert n1_; intro HB; (try clear hb)))
     go_ret
     exact ⟨by first | rfl | simp [*], by repeat (first | (with_reducible first | exact HB.out | apply below_alloc | apply pw_below_drewN | apply below_drew1 | refine below_set ?_ GE101.out) | exact HB.out)⟩
    ·rw [if_neg c23] at H
     have c23b0 : (a1 == 5) = false := beq_eq_false_iff_ne.mpr c23
     have c23b1 : (a1 != 5) = true := bne_iff_ne.mpr c23
     replace H := Option.bind_eq_some_iff.mp H
     obtain ⟨t111, A390, H⟩ := H
     replace H : (some t111) = some r := H
     have A39 := Aside0.mk A390
     clear A390
     obtain rfl := Option.some.inj H
     go_enter Tryd.func13, Tryd.ntmps13
     go_wp2_with (first | ((with_reducible refine gate_dst (N := 2) rfl ?_); refine box_event ?hg (N := 2) ?hd (cs := #[.bool false, .int .i64 a0_1, .string a0_2]) (t := 25) ?hr ?_; (case hd => rfl); (case hg => rfl); (case hr => first | (go_simp; done) | (go_simp; rfl)); intro gb101 hg w40 hbox hb; have n0_ := Aside0.mk (below_step (xW HB.out) hb); have n1_ := Aside0.mk (hbox); have n3_ := Aside0.mk ((by rw [hg]; exact (below_size (xW HB.out)) : w.heap.size ≤ gb101)); clear HB; revert n0_ n1_ n3_; intro HB BK101 GE101; clear hb hbox hg; have hcz41_0 : w40.cell? ⟨gb101, 0, none⟩ = some (.bool false) := (blk_cell BK101.out 0).trans rfl; have hcz41_1 : w40.cell? ⟨gb101, 1, none⟩ = some (.int .i64 a0_1) := (blk_cell BK101.out 1).trans rfl; have hcz41_2 : w40.cell? ⟨gb101, 2, none⟩ = some (.string a0_2) := (blk_cell BK101.out 2).trans rfl; have hfz41_0 := blk_frozen BK101.out 0; have hfz41_1 := blk_frozen BK101.out 1; have hfz41_2 := blk_frozen BK101.out 2) | ((with_reducible refine gate_callee (f := 14) rfl ?_); refine goesL_ (some 11) rfl rfl Tryd.func14 (by kernel_rfl) rfl #[.agg #[.bool false, .int .i64 a0_1, .string a0_2], .int .i64 a1] rfl (by (try simp only [List.map_toArray, List.map_cons, List.map_nil]) <;> rfl) ?_; (with_reducible refine (value_Valid.calls false a0_1 a0_2 a1 true _ A3.out).mono ?_); rintro e w42 ⟨rfl, hb⟩; refine ⟨_, rfl, ?_⟩; have n0_ := Aside0.mk (blk_below (xB BK101.out) hb); have n1_ := Aside0.mk (below_step (xS HB.out (ge GE101.out g0)) hb); clear BK101 HB; revert n0_ n1_; intro BK101 HB; (try clear hb); have hcz43_0 : w42.cell? ⟨gb101, 0, none⟩ = some (.bool false) := (blk_cell BK101.out 0).trans rfl; have hcz43_1 : w42.cell? ⟨gb101, 1, none⟩ = some (.int .i64 a0_1) := (blk_cell BK101.out 1).trans rfl; have hcz43_2 : w42.cell? ⟨gb101, 2, none⟩ = some (.string a0_2) := (blk_cell BK101.out 2).trans rfl; have hfz43_0 := blk_frozen BK101.out 0; have hfz43_1 := blk_frozen BK101.out 1; have hfz43_2 := blk_frozen BK101.out 2) | ((with_reducible refine gate_callee (f := 34) rfl ?_); refine goesL_ (some 49) rfl rfl Tryd.func34 (by kernel_rfl) rfl #[.int .i64 a0_1, .int .i64 10] rfl (by (try simp only [List.map_toArray, List.map_cons, List.map_nil]) <;> rfl) ?_; (with_reducible refine (strconv_FormatInt_34.calls (hG := HG.out.at (xS HB.out (ge GE101.out g0))) a0_1 10 t111 _ A39.out).mono ?_); rintro e w44 ⟨rfl, hb⟩; refine ⟨_, rfl, ?_⟩; have n1_ := Aside0.mk (below_step (xS HB.out (ge GE101.out g0)) hb); clear HB; revert n1_; intro HB; (try clear hb)))
     go_ret
     exact ⟨by first | rfl | simp [*], by repeat (first | (with_reducible first | exact HB.out | apply below_alloc | apply pw_below_drewN | apply below_drew1 | refine below_set ?_ GE101.out) | exact HB.out)⟩
end
end Go.Proofs.YtlcibkbpppijdaaDoor.X
