import Derived.Test.YtapbonkiigealaaGreatDoorVAG
set_option linter.all false
section
end
