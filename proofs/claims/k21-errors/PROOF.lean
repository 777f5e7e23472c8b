import PyProof.Rows.All
import Wide.All
import OpenK.AllK
import Wide.FinOn
import KE.KExcTry
import KE.KExcStr
import KE.RegKIsAll
import PySem.Challenge.RW_kraftroom_k21_errors
open PySem PySem.W PySem.W.X PyProof.Rows
set_option Elab.async false
set_option maxRecDepth 100000 in
set_option maxHeartbeats 0 in
theorem PySem.Challenge.cw_kraftroom_k21_errors_holds : PySem.Challenge.rw_kraftroom_k21_errors.Holds := by
  open_z
