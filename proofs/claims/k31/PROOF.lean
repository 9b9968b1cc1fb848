import PyProof.Rows.All
import Wide.All
import OpenK.AllK
import Wide.FinOn
import PySem.Challenge.RW_frontcut_k31_classes_apart
open PySem PySem.W PySem.W.X PyProof.Rows
set_option Elab.async false
set_option maxRecDepth 100000 in
set_option maxHeartbeats 0 in
theorem PySem.Challenge.cw_frontcut_k31_classes_apart_holds : PySem.Challenge.rw_frontcut_k31_classes_apart.Holds := by
  open_z
