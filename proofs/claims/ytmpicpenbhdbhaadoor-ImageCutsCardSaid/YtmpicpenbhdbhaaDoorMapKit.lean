/- For walks by hand over maps: what they need of the library. -/
import Derived.Maps.Own
import Derived.Maps.OwnOps
import Derived.Maps.Views
import Derived.Carry
namespace Go.Proofs.YtmpicpenbhdbhaaDoor.P.MapKit
end Go.Proofs.YtmpicpenbhdbhaaDoor.P.MapKit
