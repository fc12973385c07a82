import Derived.Test.YtapbonkiigealaaGreatDoorOAG
set_option linter.all false
section
end
