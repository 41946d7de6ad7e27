/- The second layer's program is alive: its answer at fixed numbers, run. -/
import Derived.Test.YtpjbniihdndlmaaQx31
namespace Go.Proofs.Ytpjbniihdndlmaa.M
open Go.Proofs.Ytpjbniihdndlmaa.Q
theorem alive2_at : cobweblaw02_alive.f 1000 = some true := by decide +kernel
end Go.Proofs.Ytpjbniihdndlmaa.M
