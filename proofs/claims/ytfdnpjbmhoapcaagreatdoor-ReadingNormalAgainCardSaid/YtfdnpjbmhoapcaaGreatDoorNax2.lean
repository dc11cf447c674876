/-
  Lemmas for simp in one place; no conditions.
-/
import Derived.Test.YtfdnpjbmhoapcaaGreatDoorNat5
set_option linter.all false
set_option maxHeartbeats 32000000
namespace Go.AX
open Go
noncomputable section
attribute [go_sem] aeG aaU aaS aeF Ri Wi aaR aeE aji aaT Wj IW WY WT Ny aeT WZ aa8 R3 BS R8 R9 Sg Gh aa7 abb aba WQ WS DF DE Js NC Sa Jt Sf W1 Se R5 Sb Sc R6 WV WW WX R7 Nz NA Gg BT Sd R4 Nx Jr aa9 Nw WU NB DG DH
end
end Go.AX
