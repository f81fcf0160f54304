/-
  The statement WholeBounds: out of the walk of the law, for every input.
-/
import Derived.Test.YtfnlfpcfkbdcmaaGreatDoorT33
import Derived.Test.YtfnlfpcfkbdcmaaGreatDoorTie
import Derived.Test.YtfnlfpcfkbdcmaaGreatDoorCards
set_option linter.unusedSimpArgs false
set_option linter.unusedVariables false
set_option maxRecDepth 100000
set_option maxHeartbeats 0
open Go.Proofs.Tryz
namespace Go.Proofs.YtfnlfpcfkbdcmaaGreatDoor.wholeBoundsRow
open Go.ChangeShapes Go.WideShapes Go.ChangeAt Go.RowKit
theorem own:ownKnob prog.godebug=none:=AL
theorem _s:laidOutB prog=true:=AL
theorem lifted (os:Os) (s:os.Started) (H:Type) (enc:TypeId×la->H):
  ReturnsInHanded {} Tryz.checked os 5 .any (λw args=>(Rows.wholeBoundsSpec.pre enc prog Tryz.f5 [] false w args/\laidMetH prog Rows.wholeBoundsRow.laid w)/\sizedMet enc prog Tryz.f5 (OpenSpec.ofChange Rows.wholeBoundsSpec) false w args) (Rows.wholeBoundsSpec.post enc prog Tryz.f5 false true false false):=by
 refine returnsInHanded_of_change_and (C:=Tryz.checked) (X:=λw _=>laidMetH prog Rows.wholeBoundsRow.laid w) (λ_ _ _ hh h=>h.of_heap hh) own s AL func5
  (ChangeSpec.witness_shaped (enc:=enc) (C:=Tryz.checked) (os:=os) (X:=λw _=>laidMetH prog Rows.wholeBoundsRow.laid w) false (World.doorLaid prog 400 os) #[z8] 8 rfl (World.shaped_of_RefB AL AL) AL AL AL (ow os _)) ?_
 intro W base args y iv uK d f _ _ ih _;have b: ∀(j:O) t v,Tryz.f5.params[j]? =some t->args[j]? =some v->Value.okWide prog W .any base t v:=d;have A:=f;obtain⟨p,q,i,ln,rfl,P,N⟩:=f;have g:DataW.TrodAll enc prog W 0 (λ_=>true) true Tryz.f5.params.toList args.toList y p:=i;rw [params5] at g b;obtain⟨c,R,L,K,r,q0,Q,rfl,rfl,h0,u⟩:=trodAll_cons g;obtain⟨rfl,rfl,rfl⟩:=trodAll_nil u;obtain rfl:args= #[c]:=by cases args;simp_all
 obtain⟨rfl,rfl⟩:=trodVars_none ln;have a:=h0;have F: ∀x∈r,x.block<(W:O):=by obtain⟨m,B⟩:=a;exact DataW.trod_lt m _ _ _ B
 obtain⟨z,o,c0,b0,rfl,n,E,l⟩:=T_ qu xS AL (b 0 30 c rfl rfl) h0;clear i d;refine(Lo z o c0 b0 W n E l (Rz ih)).mono λe cL ⟨D,k⟩=> ?_;subst D;exact⟨_,rfl,_,_,_,[],_,[],A,trodAll_mk1 (shut_bool underlying4 _),(trodAll_cons_mk (Below.trod _s AL (xD AL) a k F) trodAll_mk0),rfl,k.frame _,λh=>by cases h⟩
theorem k9:((Rows.wholeBoundsRow.inPlace==Tryz.pinned.checked.prog.inPlace 5))=true:=AL
theorem k10:((Rows.wholeBoundsRow.unfollowed==Tryz.pinned.checked.prog.unfollowed 5))=true:=AL
theorem k11:((Rows.wholeBoundsRow.recurses==Tryz.pinned.checked.prog.recurses 5))=true:=AL
theorem k12:((Rows.wholeBoundsRow.named==Tryz.pinned.checked.prog.varsNamed 5))=true:=AL
theorem k22:((Rows.wholeBoundsRow.plainKeys==Tryz.pinned.checked.prog.plainKeys))=true:=AL
theorem k26:((Rows.wholeBoundsRow.lifted==Tryz.pinned.checked.prog.liftsFinal))=true:=AL
theorem closed:joinedFacts Tryz.pinned.checked.prog 5 Tryz.f5 Rows.wholeBoundsSpec Rows.wholeBoundsRow=true:=NU AL Lv Ly AL AL AL AL AL AL k9 k10 k11 k12 AL AL AL AL AL AL AL AL AL k22 AL Im IM k26 AL AL AL AL AL
theorem over:Rows.wholeBoundsRow.holds Tryz.pinned (OpenSpec.ofChange Rows.wholeBoundsSpec):=
 OpenClaim.holds_of_wide 5 Tryz.f5 rfl rfl rfl rfl rfl rfl rfl ⟨rfl,rfl,rfl,rfl,rfl⟩ rfl rfl rfl rfl rfl AL func5 closed
  (xD AL) (by unfold Func.isWrapper;first|(rw [qk (by decide+kernel)];kernel_rfl)|(rw [qJ (by decide+kernel)];exact⟨rfl,rfl⟩))
  (λos a H enc _=>lifted os a H enc)
theorem proved:Rows.WholeBoundsCardSaid:=
 Claim7.holds_tied_plain_at .later [] [.data] true Rows.wholeBoundsCard.stood.harness false
  over (λ_ h=>by cases h) AL (λ_ h=>by cases h) wholeBounds_row_tie rfl ⟨rfl,rfl⟩ AL rfl
  (λf a e d=>by
   obtain rfl:f=5:=zy ((show prog.funcNamed Rows.wholeBoundsRow.func=some 5 by kernel_rfl).symm.trans e)|>.symm
   obtain rfl:a=Tryz.f5:=(zy (func5.symm.trans d)).symm;exact⟨AL,λj t ht=>by
    rw [params5] at ht;have b:t∈[30]:=by simpa using Array.mem_of_getElem? ht
    have c:([30].all λu=> !prog.wantsStandIn u)=true:=AL;exact(show prog.wantsStandIn t=false by simpa using xT.1 c t b)⟩)
  AL
end Go.Proofs.YtfnlfpcfkbdcmaaGreatDoor.wholeBoundsRow
