/- Code of the program's functions. -/
import Derived.Test.YtonjnjkdebpilaaGreatDoorIr0
