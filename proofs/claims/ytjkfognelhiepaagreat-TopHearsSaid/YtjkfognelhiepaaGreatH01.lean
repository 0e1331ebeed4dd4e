import Derived.Test.YtjkfognelhiepaaGreatC05
namespace Go.Proofs.YtjkfognelhiepaaGreat
open Go.RowKit _root_.Go.Proofs.Tryz
set_option maxRecDepth 100000
set_option maxHeartbeats 8000000
section
section
variable {w w':World}{B B' size n:Nat}{A:Option Addr}{xs:List Value}
theorem Reads.more(h:Reads w B size A n xs)(hB:B<=B'):Reads w B' size A n xs :=
 ⟨h.1,λ hn=>by
  obtain⟨ad,e,hb,hc⟩:=h.2 hn
  exact⟨ad,e,ZO,hc⟩⟩
end
section
variable {w w':World}{g:Nat}{t:TypeId}{cs:Array Value}
end
end
def Ztm(cs:List Value)(i:Nat)(vs:List Value):List Value:=cs.take i++vs++cs.drop (i+vs.length)
end Go.Proofs.YtjkfognelhiepaaGreat
