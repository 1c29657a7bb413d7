import Derived.SizedLaws
import Derived.ChangeSlices
namespace Go.Proofs.YtijmigapdcikpaaDoorW.PrintWords
open Go.ChangeShapes Go.WideShapes
end Go.Proofs.YtijmigapdcikpaaDoorW.PrintWords
