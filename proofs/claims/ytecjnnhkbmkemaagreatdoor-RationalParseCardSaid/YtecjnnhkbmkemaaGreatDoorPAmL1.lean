/- The helpers of the integer laws over plain data, and the frame of a law. -/
import Derived.Test.YtecjnnhkbmkemaaGreatDoorPAmK
import Derived.Test.YtecjnnhkbmkemaaGreatDoorPAh
import Derived.Test.YtecjnnhkbmkemaaGreatDoorPLaw
namespace Go.Proofs.YtecjnnhkbmkemaaGreatDoor
open Go.ChangeShapes Go.WideShapes Go.ChangeAt Go.RowKit Go.Joins
theorem noS (w : World) (hT : NoWord (fun _ => False) w) : NoWord (fun _ => False) w := hT
theorem law_calls {f : FuncId} {ds : List DV} (h : CallOK Tryz.prog f ds (.one (dB true))) {w : World} (hT : NoWord (fun _ => False) w) {vs : List Value} (hv : VM (fun _ => False) w ds vs) : Calls Tryz.prog f vs.toArray w (RetB true w) :=
  (h.calls _ w vs (noS w hT) hv).mono fun e w' ⟨v, he, hm, hb⟩ => by
    obtain rfl := av_val (show AV.M _ _ _ _ from hm)
    exact ⟨he, hb⟩
end Go.Proofs.YtecjnnhkbmkemaaGreatDoor
