/- What the rows of this claim use, out of the texts of this work (O0). No condition beyond those that each statement names. -/
import Derived.Test.YtenbkljgmgdegaaQbPOx0
namespace Go.Proofs.Ytenbkljgmgdegaa.PO
deriving instance DecidableEq for S34
deriving instance DecidableEq for S36
end Go.Proofs.Ytenbkljgmgdegaa.PO
