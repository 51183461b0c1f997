/- Texts in one: No functions of the library are laid here: a text for the others' sake. -/
import Derived.Shelf.Strings.OnBuilder
import Derived.Shelf.Strconv.Itoa4
import Derived.Test.YthbgghmjbaldlaaProg
/-! QLay: No functions of the library are laid here: a text for the others' sake. -/
namespace Go.Proofs.Ythbgghmjbaldlaa
end Go.Proofs.Ythbgghmjbaldlaa
