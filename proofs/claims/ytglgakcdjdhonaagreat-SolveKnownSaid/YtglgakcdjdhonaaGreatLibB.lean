/- Nothing of the library at this dump. -/
import Derived.Shelf.LaysM
import Derived.Shelf.Slices.ReverseS
import Derived.Shelf.Small.Wraps
import Derived.Shelf.Strconv.Itoa3
import Derived.Shelf.Strings.OnBuilder
import Derived.Shelf.Strings.Repeat
import Derived.Shelf.Strings.Split
import Derived.Test.YtglgakcdjdhonaaGreatProg
