/- Lemmas for the claim K11f: how the program's functions run, and what they answer; no condition but those that each theorem names. -/
import Derived.Test.YtpdjadmnnadkfaaGreatDoorTie
set_option linter.unusedVariables false
set_option linter.unusedSimpArgs false
