/- no contract of the shelf is wanted at this seat: the name that the printed texts import. By the prover of this repo. -/
import Derived.Test.YtkmdhpmgbcdlmaaDoorProg
