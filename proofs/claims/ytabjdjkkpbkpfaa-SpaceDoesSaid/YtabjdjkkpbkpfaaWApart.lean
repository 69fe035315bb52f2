-- PRINTED BY print.sh 35421559b90ae4d0a3588c463048766b98c2df88dd9212a6774a882060cdf62d: not written by this session
import Derived.Test.YtabjdjkkpbkpfaaWWords
import Derived.Test.YtabjdjkkpbkpfaaWLast
/-! ### 40. Elements whose inner rows lie apart: what is stored into one says nothing of the others.
   S: as R, with an owner function f (block to element's index). H: as S with a hole: of element i its cells alone are told, its blocks are oki. -/
namespace Go.Proofs.YtabjdjkkpbkpfaaW.PrintWords
open Go.RowKit
namespace Kd
/-! #### append, make, literals: the new element's blocks are none of the elder ones' -/
end Kd
end Go.Proofs.YtabjdjkkpbkpfaaW.PrintWords
