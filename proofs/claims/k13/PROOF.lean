import PyProof.Rows.All
import Wide.All
import OpenK.AllK
import Wide.FinOn
import PySem.Challenge.RW_stavemill_k13_the_one_fifth
open PySem PySem.W PyProof.Rows
set_option Elab.async false
set_option maxRecDepth 100000 in
set_option maxHeartbeats 8000000 in
theorem PySem.Challenge.cw_stavemill_k13_the_one_fifth_holds : PySem.Challenge.rw_stavemill_k13_the_one_fifth.Holds := by
  open_k
