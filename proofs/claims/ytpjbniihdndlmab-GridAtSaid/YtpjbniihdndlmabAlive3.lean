/- The third layer's program is alive: its answer at fixed numbers, run. -/
import Derived.Test.YtpjbniihdndlmabQx23
namespace Go.Proofs.Ytpjbniihdndlmab.M
open Go.Proofs.Ytpjbniihdndlmab.Q
theorem alive3_at : cobweblaw03_alive.f 1000 = some true := by decide +kernel
end Go.Proofs.Ytpjbniihdndlmab.M
