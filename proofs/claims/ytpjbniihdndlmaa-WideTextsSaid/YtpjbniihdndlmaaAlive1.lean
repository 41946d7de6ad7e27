/- The first layer's program is alive: its answer at fixed numbers, run. -/
import Derived.Test.YtpjbniihdndlmaaQx10
namespace Go.Proofs.Ytpjbniihdndlmaa.M
open Go.Proofs.Ytpjbniihdndlmaa.Q
theorem alive1_at : cobweblaw01_alive.f 1000 = some true := by decide +kernel
end Go.Proofs.Ytpjbniihdndlmaa.M
