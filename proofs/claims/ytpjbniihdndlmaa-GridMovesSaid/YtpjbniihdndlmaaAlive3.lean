/- The third layer's program is alive: its answer at fixed numbers, run. -/
import Derived.Test.YtpjbniihdndlmaaQx25
namespace Go.Proofs.Ytpjbniihdndlmaa.M
open Go.Proofs.Ytpjbniihdndlmaa.Q
theorem alive3_at : cobweblaw03_alive.f 1000 = some true := by decide +kernel
end Go.Proofs.Ytpjbniihdndlmaa.M
