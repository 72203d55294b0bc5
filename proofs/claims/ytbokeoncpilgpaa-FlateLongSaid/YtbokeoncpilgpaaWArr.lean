/- Words that the printed contracts of this seat use, out of the print's own: what its texts need of them. -/
import Derived.Test.YtbokeoncpilgpaaWWords
