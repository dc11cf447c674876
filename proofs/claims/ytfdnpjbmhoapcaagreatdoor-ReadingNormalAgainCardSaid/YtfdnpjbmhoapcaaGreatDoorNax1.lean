/-
  Lemmas for simp in one place; no conditions.
-/
import Derived.Test.YtfdnpjbmhoapcaaGreatDoorNaw1
set_option linter.all false
set_option maxHeartbeats 32000000
namespace Go.AX
open Go
noncomputable section
attribute [go_sem] aey wp_skip wp_exit wp_ret wp_region V4 Vb aew aaI aaH Jo ahM aet YQ IX YS aeu U4 U5 Va Ip adC Lh U3 PV YR U2 U8 U9 Lg YO YP U6 Lj PY PW KT TD Ox V7 QX QZ Uc O0 Kw O3 Hf Ki Ef QV sg JF QY KQ IT Nv UU rX abr T.ag Pr Pq jd Sw NO QN MY DN BW FF I5 I8 BO I7 yz Dy BN I6 FG zC Dx yy I0 We Wc Wd Wb Wa Wf V9 Wg Q6 Q8 Hq Eh UJ UK KX ac2 ac3 ac4 ac5 ac6 ac7 Pn KO Option.getD_some if_true if_false aa.bI ae.bool.injEq decide_eq_true_eq decide_eq_false_iff_not Bool.not_eq_true' Bool.not_eq_false' Bool.not_eq_true decide_true decide_false Bool.not_true Bool.not_false Int.toNat_natCast Int.natCast_nonneg true_and and_true PX P5 Vg aaJ aaK aev ai7 Vc aex Yy Pv Pw PU aa.OZ aa.OY aa.OU aa.acG aa.X3 TS TU Nat.add_zero Nat.zero_add Fu Dq eq_self_iff_true not_true_eq_false not_false_eq_true ajc Du Re ajb Ii je List.length_cons List.length_nil Nat.le_refl aH ir List.getElem?_cons_zero List.getElem?_cons_succ List.drop_zero List.drop_succ_cons List.take_succ_cons List.take_zero V5 Dp Gp DL Ft V6 al6 al7 acI acJ bV UH UI ado E3 YA PE E4 YL U' La NM NN Fy Bool.and_true Bool.true_and Io Hr
def oK (d:Nat)(o:dS):aQ:=⟨some d,none,o⟩
def oM (d a:Nat):aQ:=⟨some d,none,.mv (.t a)⟩
def oL (d a:Nat):aQ:=⟨some d,none,.ct (.t a)⟩
def oF (d n a:Nat):aQ:=⟨some d,none,.dh n (.t a)⟩
def oX (d n a b:Nat):aQ:=⟨some d,none,.kz n (.t a) (.t b)⟩
def oJ (d a:Nat):aQ:=⟨some d,none,.len .slice (.t a)⟩
def oQ (d n a:Nat):aQ:=⟨some d,none,.fJ n (.t a)⟩
def oB (d:Nat)(o:BinOp)(a b:Nat):aQ:=⟨some d,none,.bin o .none (.t a) (.t b)⟩
def oS (n a b:Nat):aQ:=⟨none,none,.store n (.t a) (.t b)⟩
def oG (d g:Nat)(b:Bool)(o:dS):aQ:=⟨some d,some (g,b),o⟩
def oZ (o:dS):aQ:=⟨none,none,o⟩
def oP (i:Nat)(o:aQ):aP:=⟨o,i,.pure,[]⟩
def oR (i:Nat)(o:aQ):aP:=⟨o,i,.read,[]⟩
def oW (i:Nat)(o:aQ):aP:=⟨o,i,.wr,[]⟩
def oT (i:Nat)(o:aQ):aP:=⟨o,i,.new,[]⟩
attribute [go_sem] oK oM oL oF oX oJ oQ oB oS oG oZ oP oR oW oT
end
end Go.AX
