-- PRINTED BY print.sh 35421559b90ae4d0a3588c463048766b98c2df88dd9212a6774a882060cdf62d: not written by this session
-- PRINTED WORDS (module Derived/Print/More.lean): go-gate-2's additions: an AI agent of Go's test side, Tue Nov 17 2026; no person has read it. Lean checks it.
import Derived.Test.YtabjdjkkpbkpfaaWWords
import Derived.Test.YtabjdjkkpbkpfaaWLast
import Derived.Test.YtabjdjkkpbkpfaaWQPut
import Derived.Test.YtabjdjkkpbkpfaaWApart
import Derived.Test.YtabjdjkkpbkpfaaWZeros
import Derived.Test.YtabjdjkkpbkpfaaWFoot
import Derived.Test.YtabjdjkkpbkpfaaWKept
import Derived.Test.YtabjdjkkpbkpfaaWNEv
namespace Go.Proofs.YtabjdjkkpbkpfaaW.PrintMore
open Go.RowKit Go.Proofs.YtabjdjkkpbkpfaaW.PrintWords
namespace Kd
open Go.Proofs.YtabjdjkkpbkpfaaW.PrintWords.Kd
end Kd

namespace Kd
open Go.Proofs.YtabjdjkkpbkpfaaW.PrintWords.Kd
end Kd
end Go.Proofs.YtabjdjkkpbkpfaaW.PrintMore
namespace Go.Proofs.YtabjdjkkpbkpfaaW.PrintWords
open Go.RowKit
namespace Kd
end Kd
end Go.Proofs.YtabjdjkkpbkpfaaW.PrintWords
namespace Go.Proofs.YtabjdjkkpbkpfaaW.PrintWords
open Go.RowKit
namespace Kd
end Kd
end Go.Proofs.YtabjdjkkpbkpfaaW.PrintWords
