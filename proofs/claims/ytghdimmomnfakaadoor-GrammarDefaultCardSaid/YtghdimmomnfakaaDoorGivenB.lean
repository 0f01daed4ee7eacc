/-
  All contracts that were proved by hand on the printed ones.
-/
import Derived.Test.YtghdimmomnfakaaDoorGvText
import Derived.Test.YtghdimmomnfakaaDoorGvFind
