/- Code of the program's functions. -/
import Derived.Test.YtpeomfjbcdahnaaGreatDoorIr0
