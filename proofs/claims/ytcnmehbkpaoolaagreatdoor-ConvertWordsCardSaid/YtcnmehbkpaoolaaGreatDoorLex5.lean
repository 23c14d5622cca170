/-
 A part of the proof.
-/
import Derived.Test.YtcnmehbkpaoolaaGreatDoorLex4
