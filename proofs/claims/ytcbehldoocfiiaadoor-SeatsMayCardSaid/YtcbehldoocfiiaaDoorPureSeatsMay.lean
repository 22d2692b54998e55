/- SeatsMay: what the law comes to is true at every number. -/
import Derived.Test.YtcbehldoocfiiaaDoorPure0
namespace Go.Proofs.YtcbehldoocfiiaaDoor.Pure
open Go.RowKit Go.Proofs.YtcbehldoocfiiaaDoor.Q Go.Proofs.YtcbehldoocfiiaaDoorW.PrintWords Go.Proofs.YtcbehldoocfiiaaDoorW.PrintLast Go.Proofs.YtcbehldoocfiiaaDoorW.PrintMore

theorem SeatsMay (a : Int) (_h : (Lit.int .i64 a).wf = true) : ∃ k, selvedgelaw05_SeatsMay.f k a = some true := by
  obtain ⟨k, hk⟩ := shown_ev.rounds
  refine ⟨k, ?_⟩
  unfold selvedgelaw05_SeatsMay.f
  rw [hk, may_f, refMay_f, faults_f, refFaults_f, quorum_f, refQuorum_f, weak_f, refWeak_f]
  simp

end Go.Proofs.YtcbehldoocfiiaaDoor.Pure
