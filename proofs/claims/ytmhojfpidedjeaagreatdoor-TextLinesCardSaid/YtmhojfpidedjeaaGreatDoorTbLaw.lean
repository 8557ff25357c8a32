/- The walks of TextFirst, TextAgain, TextLines together. -/
import Derived.Test.YtmhojfpidedjeaaGreatDoorTb37
import Derived.Test.YtmhojfpidedjeaaGreatDoorTb38
namespace Go.Proofs.YtmhojfpidedjeaaGreatDoor
theorem all3:True:=trivial
end Go.Proofs.YtmhojfpidedjeaaGreatDoor
