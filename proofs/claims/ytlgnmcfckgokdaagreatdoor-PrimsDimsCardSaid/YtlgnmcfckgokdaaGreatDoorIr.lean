/- Code of the program's functions. -/
import Derived.Test.YtlgnmcfckgokdaaGreatDoorIr0
import Derived.Test.YtlgnmcfckgokdaaGreatDoorIr1
