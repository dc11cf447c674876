/-
  The tied card: the law returns true for every input; conditions: those of the row, no others.
-/
import Derived.Test.YtfdnpjbmhoapcaaGreatDoorNam17
import Derived.Test.YtfdnpjbmhoapcaaGreatDoorNar4
import Derived.Test.YtfdnpjbmhoapcaaGreatDoorNat25
import Derived.Test.YtfdnpjbmhoapcaaGreatDoorNat26
import Derived.SevenTiedAt
import Derived.ShutString
import Derived.ChangeOld
import Derived.Carry
import Derived.Test.YtfdnpjbmhoapcaaGreatDoorTie
import Derived.Test.YtfdnpjbmhoapcaaGreatDoorCards
set_option linter.all false
set_option maxHeartbeats 32000000
namespace Go.Proofs.YtfdnpjbmhoapcaaGreatDoor.bU
open Go Go.Proofs Go.RowKit Go.ChangeShapes Go.WideShapes Go.ChangeAt Go.WideMaps Go.WideElems Go.AX
def aaD {ρ:Ren}{v:ae}{v':Value}(h:V ρ v v')(e:v=.bool true):v'=.bool true:=by subst e;exact h.iD
set_option maxRecDepth 100000 in
def lifted (os:Os)(started:os.Started)(H:Type)(enc:TypeId×Value->H) :
 ReturnsInHanded {} Tryz.checked os 3 .any (λw args=>(Rows.readingNormalAgainSpec.pre enc Tryz.prog Tryz.f3 [] false w args/\laidMetH Tryz.prog G7 w)/\sizedMet enc Tryz.prog Tryz.f3 (OpenSpec.ofChange Rows.readingNormalAgainSpec) false w args)
  (Rows.readingNormalAgainSpec.post enc Tryz.prog Tryz.f3 false true false false):=by
 refine returnsInHanded_of_change_and (C:=Tryz.checked) (X:=λw _=>laidMetH Tryz.prog G7 w) (λ_ _ _ hh h=>h.of_heap hh) own started (by kernel_rfl) Tryz.func3
  (ChangeSpec.witness_shaped (enc:=enc) (C:=Tryz.checked) (os:=os) (X:=λw _=>laidMetH Tryz.prog G7 w) false (World.doorLaid Tryz.prog 4000 os) #[.agg #[.int .i64 0,.slice none 0 0,.slice none 0 0],.string ByteArray.empty] 8 rfl (World.shaped_of_RefB (by kernel_rfl) (by kernel_rfl)) (by kernel_rfl) (by kernel_rfl) (by kernel_rfl) (Sk os _)) ?_
 intro W base args ds gs before Z7 hW _ _ hL _;have jG:∀(j:Nat) t v,Tryz.f3.params[j]?=some t->args[j]?=some v->Value.okWide Tryz.prog W .any base t v:=Z7;have hW':=hW;obtain⟨p,q,hA0,hV,rfl,DR,kv⟩:=hW;have hA:DataW.TrodAll enc Tryz.prog W 0 (λ_=>true) true Tryz.f3.params.toList args.toList ds p:=hA0;rw[Tryz.params3]at hA jG;obtain⟨v0,v1,d0,d1,p0,p1,rfl,rfl,rfl,h0,h1⟩:=trodAll_two hA;obtain⟨rfl,rfl⟩:=trodVars_none hV;have k0:=h0;have lt0:∀x∈p0,x.block<W.heap.size:=by obtain⟨m,hm⟩:=k0;exact DataW.trod_lt m _ _ _ hm
 obtain⟨a0,A0,hV0,hX0⟩:=Us (jG 0 25 v0 rfl rfl) h0;obtain⟨s1,rfl,rfl,rfl,ws1⟩:=Go.ChangeMaps.open_string Tryz.underlying9 (jG 1 9 v1 rfl rfl) h1
 have hX1:(s1.data.toList.map UInt8.toNat).length<=9223372036854775807:=by
  have:(s1.data.toList.map UInt8.toNat).length=s1.size:=by rw[qQD,Array.length_toList];rfl
  unfold maxLen at ws1;omega
 have af8:=Ya hL;clear Z7 h0;refine(FE (G9 af8) (args':=#[v0,.string s1]) (.cons hV0 (.cons (.str rfl) .nil)) (MX A0 a0 _ (BL W) hX0 hX1)).mono λe W' ⟨r,h',r',ρ,he,hr,hV',bel⟩=>?_;have oH:=aaD hV' hr;subst oH;subst he;exact⟨_,rfl,_,_,_,[],_,[],hW',trodAll_mk1 (shut_bool Tryz.underlying4 _),trodAll_cons_mk (Below.trod (show laidOutB Tryz.prog=true from j1) (by kernel_rfl) (of_decide_eq_true (by kernel_rfl)) k0 bel lt0) (trodAll_cons_mk (Go.ChangeMaps.shut_string Tryz.underlying9 ws1) trodAll_mk0),rfl,bel.frame _,λh=>by cases h⟩
def o9:Rows.ReadingNormalAgainSaid :=
 OpenClaim.holds_of_wide 3 Tryz.f3 rfl rfl rfl rfl rfl rfl rfl ⟨rfl,rfl,rfl,rfl,rfl⟩ rfl rfl rfl rfl rfl ab5 Tryz.func3 acC af3 Tz
  (λos started H enc _=>lifted os started H enc)
theorem card_holds:Rows.ReadingNormalAgainCardSaid :=
 Claim7.holds_tied_plain_at .later [] [.data,.data,.data,.sentinel,.sentinel] true (true, "b850eaa2e0fea673580a735ca44b7370d4ead15612b2110e3fd4cf8614c0681b") true
  o9 (λ_ h=>by cases h) cwf (λ_ h=>by cases h) readingNormalAgain_row_tie rfl ⟨rfl,rfl⟩ aeO rfl
  (λf fn hf GB=>by
   obtain rfl:f=3:=qKK (aeP.symm.trans hf) |>.symm
   obtain rfl:fn=Tryz.f3:=(qKK (Tryz.func3.symm.trans GB)).symm
   exact⟨aaW,λj t ht=>by
    rw[Tryz.params3]at ht;have hm:t∈[25,9]:=by simpa using Array.mem_of_getElem? ht
    exact(show Tryz.prog.wantsStandIn t=false by simpa using List.all_eq_true.1 aa6 t hm)⟩)
  aeK
#print axioms card_holds
end Go.Proofs.YtfdnpjbmhoapcaaGreatDoor.bU
