/-
  The statement WholeLimits: out of the walk of the law, for every input.
-/
import Derived.Test.YtfnlfpcfkbdcmaaGreatDoorL40
import Derived.Test.YtfnlfpcfkbdcmaaGreatDoorTie
import Derived.Test.YtfnlfpcfkbdcmaaGreatDoorCards
import Derived.SevenTiedAt
set_option linter.unusedSimpArgs false
set_option linter.unusedVariables false
set_option maxRecDepth 100000
set_option maxHeartbeats 0
open Go.Proofs.Tryz
namespace Go.Proofs.YtfnlfpcfkbdcmaaGreatDoor.wholeLimitsRow
open Go.ChangeShapes Go.WideShapes Go.ChangeAt Go.RowKit
theorem own:ownKnob prog.godebug=none:=AL
theorem laidOut:laidOutB prog=true:=AL
theorem lifted (os:Os) (B:os.Started) (H:Type) (enc:TypeId×Value->H):
  ReturnsInHanded {} Tryz.checked os 3 .any (λw args=>(Rows.wholeLimitsSpec.pre enc prog Tryz.f3 [] false w args/\laidMetH prog Rows.wholeLimitsRow.laid w)/\sizedMet enc prog Tryz.f3 (OpenSpec.ofChange Rows.wholeLimitsSpec) false w args) (Rows.wholeLimitsSpec.post enc prog Tryz.f3 false true false false):=by
 refine returnsInHanded_of_change_and (C:=Tryz.checked) (X:=λw _=>laidMetH prog Rows.wholeLimitsRow.laid w) (λ_ _ _ hh h=>h.of_heap hh) own B AL func3
  (ChangeSpec.witness_shaped (enc:=enc) (C:=Tryz.checked) (os:=os) (X:=λw _=>laidMetH prog Rows.wholeLimitsRow.laid w) false (World.doorLaid prog 400 os) #[(), .agg #[(),false,(),(),(),()],zn, .int .u16 0] 8 rfl (World.shaped_of_RefB AL AL) AL AL AL (ow os _)) ?_
 intro W base args G gs m' r s _ _ hL _;have a: ∀(j:Nat) t v,Tryz.f3.params[j]? =some t->args[j]? =some v->Value.okWide prog W .any base t v:=r;have Q:=s;obtain⟨p,q,y,hV,rfl,G',u'⟩:=s;have u:DataW.TrodAll enc prog W 0 (λ_=>true) true Tryz.f3.params.toList args.toList G p:=y;rw [params3] at u a;obtain⟨o,N9,d0,iL,p0,q0,I',rfl,rfl,h0,F⟩:=trodAll_cons u;obtain⟨d,M',d1,N6,A,q1,rfl,rfl,rfl,h1,N⟩:=trodAll_cons F;obtain⟨l,J',d2,D',L,q2,rfl,rfl,rfl,h2,D⟩:=trodAll_cons N;obtain⟨k,z',d3,p',p3,q3,rfl,rfl,rfl,h3,P⟩:=trodAll_cons D;obtain⟨rfl,rfl,rfl⟩:=trodAll_nil P;obtain rfl:args= #[o,d,l,k]:=by cases args;simp_all
 obtain⟨rfl,rfl⟩:=trodVars_none hV;obtain⟨I,rfl,rfl,rfl,O⟩:=open_int yu (a 0 3 o rfl rfl) h0;have g:=h1;have V: ∀x∈A,x.block<W.heap.size:=by obtain⟨m,b⟩:=g;exact DataW.trod_lt m _ _ _ b
 obtain⟨M,Y,c1,K,d',E,rfl,T⟩:=qqK jK AL AL yu underlying4 yu yu yu yu (a 1 23 d rfl rfl) h1;have f:=h2;have Z: ∀x∈L,x.block<W.heap.size:=by obtain⟨m,b⟩:=f;exact DataW.trod_lt m _ _ _ b
 obtain⟨R,n2,c2,b2,rfl,l2,J,S⟩:=qqk QL ZI AL rfl rfl rfl rfl AL AL AL AL underlying43 xS ju ju (a 2 24 l rfl rfl) h2;obtain⟨n,rfl,rfl,rfl,i⟩:=open_int underlying25 (a 3 25 k rfl rfl) h3;obtain⟨n,rfl,z⟩:=qqG i;clear y r;refine(LO I M Y c1 K d' E R n2 c2 b2 n W T l2 J S z (Rz hL)).mono λe W' ⟨U,c⟩=> ?_;subst U;exact⟨_,rfl,_,_,_,[],_,[],Q,trodAll_mk1 (shut_bool underlying4 _),(trodAll_cons_mk (shut_int yu O) (trodAll_cons_mk (Below.trod laidOut AL (xD AL) g c V) (trodAll_cons_mk (Below.trod laidOut AL (xD AL) f c Z) (trodAll_cons_mk (shut_int underlying25 i) trodAll_mk0)))),rfl,c.frame _,λh=>by cases h⟩
theorem k9:((Rows.wholeLimitsRow.inPlace==Tryz.pinned.checked.prog.inPlace 3))=true:=AL
theorem k10:((Rows.wholeLimitsRow.unfollowed==Tryz.pinned.checked.prog.unfollowed 3))=true:=AL
theorem k11:((Rows.wholeLimitsRow.recurses==Tryz.pinned.checked.prog.recurses 3))=true:=AL
theorem k12:((Rows.wholeLimitsRow.named==Tryz.pinned.checked.prog.varsNamed 3))=true:=AL
theorem k22:((Rows.wholeLimitsRow.plainKeys==Tryz.pinned.checked.prog.plainKeys))=true:=AL
theorem k26:((Rows.wholeLimitsRow.lifted==Tryz.pinned.checked.prog.liftsFinal))=true:=AL
theorem closed:joinedFacts Tryz.pinned.checked.prog 3 Tryz.f3 Rows.wholeLimitsSpec Rows.wholeLimitsRow=true:=NU AL Lv Ly AL AL AL AL AL AL k9 k10 k11 k12 AL AL AL AL AL AL AL AL AL k22 AL Im IM k26 AL AL AL AL AL
theorem over:Rows.wholeLimitsRow.holds Tryz.pinned (OpenSpec.ofChange Rows.wholeLimitsSpec):=
 OpenClaim.holds_of_wide 3 Tryz.f3 rfl rfl rfl rfl rfl rfl rfl ⟨rfl,rfl,rfl,rfl,rfl⟩ rfl rfl rfl rfl rfl AL func3 closed
  (xD AL) (by unfold Func.isWrapper;first|(rw [qk (by decide+kernel)];kernel_rfl)|(rw [qJ (by decide+kernel)];exact⟨rfl,rfl⟩))
  (λos a H enc _=>lifted os a H enc)
theorem proved:Rows.WholeLimitsCardSaid:=
 Claim7.holds_tied_plain_at .later [] [.data] true Rows.wholeLimitsCard.stood.harness false
  over (λ_ h=>by cases h) AL (λ_ h=>by cases h) wholeLimits_row_tie rfl ⟨rfl,rfl⟩ AL rfl
  (λf a e d=>by
   obtain rfl:f=3:=zy ((show prog.funcNamed Rows.wholeLimitsRow.func=some 3 by kernel_rfl).symm.trans e)|>.symm
   obtain rfl:a=Tryz.f3:=(zy (func3.symm.trans d)).symm;exact⟨AL,λj t ht=>by
    rw [params3] at ht;have b:t∈[3,23,24,25]:=by simpa using Array.mem_of_getElem? ht
    have c:([3,23,24,25].all λu=> !prog.wantsStandIn u)=true:=AL;exact(show prog.wantsStandIn t=false by simpa using xT.1 c t b)⟩)
  AL
end Go.Proofs.YtfnlfpcfkbdcmaaGreatDoor.wholeLimitsRow
