import Derived.Test.YtjkfognelhiepaaGreatC05
namespace Go.Proofs.YtjkfognelhiepaaGreat
open Go.RowKit _root_.Go.Proofs.Tryz
set_option maxRecDepth 100000
set_option maxHeartbeats 8000000
def ZtV(cs:List Value)(i:Nat)(vs:List Value):List Value:=cs.take i++vs++cs.drop (i+vs.length)
end Go.Proofs.YtjkfognelhiepaaGreat
