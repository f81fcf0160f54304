import Derived.Test.YtfnlfpcfkbdcmaaGreatDoorLA
import Derived.Outline
import Derived.Deep.QuietTactic
import Derived.BigQuiet
import Derived.StillTailTactics
import Derived.Deep.RegionHeld3
import Derived.Maps.AppendAt
import Derived.RegionTactic
import Derived.OwnWalk
import Derived.Test.YtfnlfpcfkbdcmaaGreatDoorRows
import Derived.JoinedOf
set_option linter.unusedSimpArgs false
set_option linter.unusedVariables false
set_option maxRecDepth 100000
set_option maxHeartbeats 0
open Go.Proofs.Tryz
namespace Go.Proofs.YtfnlfpcfkbdcmaaGreatDoor
section
open Go.RowKit
variable {a b:Int}
theorem Jy {k:IntKind} (h:a=b):Ending.returned (.int k a)= .returned (.int k b):=by rw [h]
theorem j7 {a b:Bool} (h:a=b):Ending.returned a= .returned b:=by rw [h]
theorem wF {k l:IntKind} {c d:Int} (h:a=c) (h2:b=d):Ending.returned (.tuple #[.int k a, .int l b])= .returned (.tuple #[.int k c, .int l d]):=by rw [h,h2]
theorem II (a:Nat) (b:a<256):(bits .and .u8 (a:Int) 128 !=0)=a.testBit 7:=by
 rw [show(128:Int)=((128:Nat):Int) from rfl,u8_and_nat a 128 b uK,nat_bit 7 a,Nat.testBit_eq_decide_div_mod_eq];rcases vL (a/2^7) with h|h<;>rw [h]<;>rfl
theorem Il (a:Nat) (b:a<256):bits .and .u8 (a:Int) 1=((a%2:Nat):Int):=by
 rw [show(1:Int)=((1:Nat):Int) from rfl,u8_and_nat a 1 b uK,nat_mask1]
theorem VS (a:Nat) (b:a<9223372036854775808):(BitVec.ofInt 64 (a:Int)).toNat=a:=by
 rw [BitVec.ofInt_natCast,BitVec.toNat_ofNat];exact jk uK
theorem a8 (a b:Nat) (c:a<9223372036854775808) (d:b<9223372036854775808):bits .and .i64 (a:Int) (b:Int)=((a&&&b:Nat):Int):=by
 have e:a&&&b<2^63:=Nat.and_lt_two_pow _ uK;show IntKind.i64.wrap ((BitVec.ofInt 64 (a:Int)&&&BitVec.ofInt 64 (b:Int)).toNat:Int)=_;rw [BitVec.toNat_and,VS a c,VS b d,qU];omega
theorem RD (a b:Nat) (c:a<9223372036854775808) (d:b<9223372036854775808):bits .or .i64 (a:Int) (b:Int)=((a|||b:Nat):Int):=by
 have e:a|||b<2^63:=Nat.or_lt_two_pow uK uK;show IntKind.i64.wrap ((BitVec.ofInt 64 (a:Int)|||BitVec.ofInt 64 (b:Int)).toNat:Int)=_;rw [BitVec.toNat_or,VS a c,VS b d,qU];omega
theorem a_ (a b:Nat) (c:a<9223372036854775808) (d:b<9223372036854775808):bits .xor .i64 (a:Int) (b:Int)=((a^^^b:Nat):Int):=by
 have e:a^^^b<2^63:=vz uK uK;show IntKind.i64.wrap ((BitVec.ofInt 64 (a:Int)^^^BitVec.ofInt 64 (b:Int)).toNat:Int)=_;rw [BitVec.toNat_xor,VS a c,VS b d,qU];omega
theorem Kr (n:Nat) (h:n<9223372036854775808):wrap64 (n:Int)=(n:Int):=yT n ⟨uK,uK⟩
theorem cP (a:Nat) (b:a<18446744073709551616):bits .and .u64 (a:Int) 1=((a%2:Nat):Int):=by
 rw [show(1:Int)=((1:Nat):Int) from rfl,u64_and_nat a 1 b uK,nat_mask1]
def kD (k m:Int):Bool:=decide (1<=k/\0<=m/\k+m<=255)
theorem bB (k m:Int):(k<1/\kD k m=false)\/(1<=k/\m<0/\kD k m=false)\/(1<=k/\0<=m/\255<k/\kD k m=false)\/(1<=k/\0<=m/\k<=255/\255<m/\kD k m=false)\/(1<=k/\0<=m/\k<=255/\m<=255/\255<k+m/\kD k m=false)\/(1<=k/\0<=m/\k<=255/\m<=255/\k+m<=255/\kD k m=true):=by
 unfold kD;simp only [zW,zd];omega
theorem dv (k m:Int) (w:World):Calls prog 100 #[k,m] w λe w'=>e= .returned (.bool (kD k m))/\w=w':=by
 rcases bB k m with⟨h1,h2⟩|⟨h1,h3,h2⟩|⟨h1,h3,h4,h2⟩|⟨h1,h3,h4,h5,h2⟩|⟨h1,h3,h4,h5,h6,h2⟩|⟨h1,h3,h4,h5,h6,h2⟩;rotate_left;rotate_left;rotate_left;rotate_left
 ·rw [h2];clear h2;have a:IntKind.i64.wrap (k+m)=k+m:=by
   obtain⟨s,a⟩: ∃s:Nat,k+m=(s:Int):=⟨(k+m).toNat,uK⟩;rw [a,qU];omega
  have b: ¬k+m<=255:=uK;go_enter func100,JM;go_wp2;go_ret;exact⟨by first|rfl|(simp;omega),rfl⟩
 ·rw [h2];clear h2;have a:IntKind.i64.wrap (k+m)=k+m:=by
   obtain⟨s,a⟩: ∃s:Nat,k+m=(s:Int):=⟨(k+m).toNat,uK⟩;rw [a,qU];omega
  go_enter func100,JM;go_wp2;go_ret;exact⟨by first|rfl|(simp;omega),rfl⟩
 all_goals
  rw [h2];clear h2;go_enter func100,JM;go_wp2;go_ret;exact⟨by first|rfl|(simp;omega),rfl⟩
end
section
variable {P:Program}{Q:Exit->Act->World->Prop}{S:World->Prop}{a a':Act}{b c g:Oper}{f fuel i n:Nat}{listed:Array Bool}{md:Region.Mode}{ops:Array Oper}{v:Value}{w:World}
theorem ZS {a:Oper} {rest:List Oper} (hi:ops.toList.drop i=a::rest):ops[i]? =some a:=by
 have h:(ops.toList.drop i)[0]? =some a:=by rw [hi];rfl
 rw [jt,v_,Array.getElem?_toList] at h;exact h
def jR (P:Program) (c:Region.Mode) (b:Array Oper) (Q:Exit->Act->World->Prop) (S:World->Prop) (n:Nat):Nat->Array Bool->Act->World->Prop
 |0,listed,a,w=>Region.ready c b listed=[]/\Q .normal a w
 |fuel+1,listed,a,w=>
  (Region.ready c b listed=[]->Q .normal a w)/\
  ∀i∈Region.ready c b listed,wpOp P b Q i (λa' w'=>(i<n->S w->S w')/\jR P c b Q S n fuel (listed.setIfInBounds i true) a' w') a w
theorem Xw: ∀(fuel:Nat) (listed:Array Bool) (a:Act) (w:World),jR P md ops Q S n fuel listed a w->wpAny P md ops Q fuel listed a w
 |0,_,_,_,h=>h
 |fuel+1,_,_,_,h=>⟨h.1,λi hi=>wpOp_mono (λa' w' b=>Xw _ _ _ _ b.2) (h.2 i hi)⟩
def wW (b:Region.Mode) (a:Array Oper) (n i:Nat):Bool:=(List.range a.size).all λj=>decide (j<n)||(match a[j]?with|some o=>o.after.any (λe=>Region.binds b e&&e.on==i)|none=>true)
theorem Kw (h:wW md ops n i=true): ∀j a,ops[j]? =some a->n<=j-> ∃e∈a.after,Region.binds md e=true/\e.on=i:=by
 intro j a b f;have d:=(Array.getElem?_eq_some_iff.1 b).1;have h1:=xT.1 h j (js.2 d);simp only [b,J3,zd] at h1;rcases h1 with h1|h1
 ·omega
 ·rw [Array.any_eq_true] at h1;obtain⟨k,c,h1⟩:=h1;rw [zR,yp] at h1;exact⟨_,Array.getElem_mem c,h1.1,h1.2⟩
theorem Xg (hi:ops[i]? =some g) (z: ∀(j:Nat) (o:Oper) p b,ops[j]? =some o->o.op≠ .select p b) (N: ∀j d,ops[j]? =some d->n<=j-> ∃e∈d.after,Region.binds md e=true/\e.on=i) (I: ∀c a w,Q (.panic c) (a.put g.dst v) w->Q (.panic c) a w):
  ∀(fuel:Nat) (listed:Array Bool) (a:Act) (w:World),
   (∀j d,ops[j]? =some d->j≠i->listed.getD j true=false->(∀e∈d.after,Region.binds md e=true->e.on≠i)->g.apart ops d=true)->
   i∈Region.ready md ops listed->YieldsIf P ops S g v a->S w->
   jR P md ops Q S n fuel (listed.setIfInBounds i true) (a.put g.dst v) w->jR P md ops Q S n (fuel+1) listed a w:=by
 intro fuel;induction fuel with
 |zero=>
  intro listed a w _ l t q H;refine⟨λh=>(by rw [h] at l;cases l),λj r=> ?_⟩;by_cases f:j=i
  ·subst f;exact t.wpOp hi q ⟨λ_ h=>h,H⟩
  ·have:=Jq r f;rw [H.1] at this;cases this
 |succ fuel M=>
  intro listed a w A l t q H;refine⟨λh=>(by rw [h] at l;cases l),λj r=> ?_⟩;by_cases f:j=i
  ·subst f;exact t.wpOp hi q ⟨λ_ h=>h,H⟩
  ·have h1:=H.2 j (Jq r f);obtain⟨C,d,s,G⟩:=mem_ready.1 r;have E: ∀e∈d.after,Region.binds md e=true->e.on≠i:=λe u x y=>by
    have h1:=G e u x;have h0:=(mem_ready.1 l).1;rw [y] at h1;rcases jE i listed.size with m|m
    ·simp [m] at h0 h1;rw [h0] at h1;cases h1
    ·simp [zg m] at h1
   have D:j<n:=by
    rcases jE j n with m|m
    ·exact m
    ·obtain⟨e,u,x,y⟩:=N j d s m;exact absurd y (E e u x)
   have h2:=wpOp_putIf s (A j d s f C E) (λp b=>z i g p b hi) (λp b=>z j d p b s) I t h1;have J: ∀k ok,ops[k]? =some ok->k≠i->(listed.setIfInBounds j true).getD k true=false->
     (∀e∈ok.after,Region.binds md e=true->e.on≠i)->g.apart ops ok=true:=λk ok O L B K=>by
    refine A k ok O L ?_ K;by_cases F:j=k
    ·subst F;exact C
    ·rw [getD_set_ne true F] at B;exact B
   refine wpOp_mono (λa' w' h3=>⟨λ_ h=>h3.2.1 D h,M (listed.setIfInBounds j true) a' w' J (Jq l (Zi f)) h3.1 (h3.2.1 D q) ?_⟩) h2;rw [Jm _ _ f];exact h3.2.2
theorem eQ (hi:ops[i]? =some g) (t: ∀(j:Nat) (o:Oper) m b,ops[j]? =some o->o.op≠ .select m b) (B: ∀c a w,Q (.panic c) (a.put g.dst v) w->Q (.panic c) a w):
  ∀(fuel:Nat) (listed:Array Bool) (a:Act) (w:World),
   (∀j f,ops[j]? =some f->j≠i->listed.getD j true=false->(∀e∈f.after,Region.binds md e=true->e.on≠i)->g.apart ops f=true)->
   i∈Region.ready md ops listed->YieldsIf P ops (λ_=>True) g v a->
   jR P md ops Q S n fuel (listed.setIfInBounds i true) (a.put g.dst v) w->jR P md ops Q S n (fuel+1) listed a w:=by
 intro fuel;induction fuel with
 |zero=>
  intro listed a w _ l q H;refine⟨λh=>(by rw [h] at l;cases l),λj p=> ?_⟩;by_cases d:j=i
  ·subst d;exact q.wpOp hi trivial ⟨λ_ h=>h,H⟩
  ·have:=Jq p d;rw [H.1] at this;cases this
 |succ fuel F=>
  intro listed a w u l q H;refine⟨λh=>(by rw [h] at l;cases l),λj p=> ?_⟩;by_cases d:j=i
  ·subst d;exact q.wpOp hi trivial ⟨λ_ h=>h,H⟩
  ·have h1:=H.2 j (Jq p d);obtain⟨y,f,s,A⟩:=mem_ready.1 p;have J: ∀e∈f.after,Region.binds md e=true->e.on≠i:=λe I K M=>by
    have h1:=A e I K;have h0:=(mem_ready.1 l).1;rw [M] at h1;rcases jE i listed.size with r|r
    ·simp [r] at h0 h1;rw [h0] at h1;cases h1
    ·simp [zg r] at h1
   have h2:=wpOp_putIf s (u j f s d y J) (λm b=>t i g m b hi) (λm b=>t j f m b s) B q h1;have C: ∀k ok,ops[k]? =some ok->k≠i->(listed.setIfInBounds j true).getD k true=false->
     (∀e∈ok.after,Region.binds md e=true->e.on≠i)->g.apart ops ok=true:=λk ok L E x D=>by
    refine u k ok L E ?_ D;by_cases z:j=k
    ·subst z;exact y
    ·rw [getD_set_ne true z] at x;exact x
   refine wpOp_mono (λa' w' h3=>⟨λG h=>h3.2.1 G h,F (listed.setIfInBounds j true) a' w' C (Jq l (Zi d)) h3.1 ?_⟩) h2;rw [Jm _ _ d];exact h3.2.2
def DS (P:Program) (c:Array Oper) (S:World->Prop):List Nat->Act->Act->Prop
 |[],a,a'=>a'=a
 |i::d,a,a'=> ∃b rest v,c.toList.drop i=b::rest/\(Region.wanted b (yielded c a.tmps)=true/\(∀w,S w->(execOp a.eval b).run P w= .ok (.value v) w)\/Region.wanted b (yielded c a.tmps)=false/\v=undef)/\DS P c S d (a.put b.dst v) a'
theorem iS (a:Act):DS P ops S [] a a:=rfl
theorem NW {c:List Nat} {rest:List Oper} (hi:ops.toList.drop i=b::rest) (d:Region.wanted b (yielded ops a.tmps)=true) (e: ∀w,S w->(execOp a.eval b).run P w= .ok (.value v) w) (h:DS P ops S c (a.put b.dst v) a'):DS P ops S (i::c) a a':=⟨b,_,v,hi, .inl ⟨d,e⟩,h⟩
theorem Ns {c:List Nat} {rest:List Oper} (hi:ops.toList.drop i=b::rest) (d:Region.wanted b (yielded ops a.tmps)=false) (h:DS P ops S c (a.put b.dst undef) a'):DS P ops S (i::c) a a':=⟨b,_,_,hi, .inr ⟨d,rfl⟩,h⟩
def RF (b:Region.Mode) (a:Array Oper) (n:Nat):List Nat->Array Bool->Bool
 |[],_=>true
 |i::c,l=>Region.free b a l i&&(Region.ready b a l).contains i&&wW b a n i&&RF b a n c (l.setIfInBounds i true)
def Rg:List Nat->Array Bool->Array Bool
 |[],l=>l
 |i::a,l=>Rg a (l.setIfInBounds i true)
theorem Rh (b:List Nat) (p:b.length<=f) (z:Region.noSelect ops=true) (m:RF md ops n b listed=true) (r: ∀t c a w,Q (.panic c) {a with tmps:=t} w->Q (.panic c) a w) (x:S w) (j:DS P ops S b a a') (h:jR P md ops Q S n (f-b.length) (Rg b listed) a' w):jR P md ops Q S n f listed a w:=by
 induction b generalizing f listed a with
 |nil=>
  have e:a'=a:=j;subst e;exact h
 |cons i b s=>
  obtain⟨o,rest,v,hi,q,j⟩:=j;simp only [RF,zR] at m;obtain⟨⟨⟨c1,c2⟩,y⟩,u⟩:=m;obtain⟨g,rfl⟩: ∃g,f=g+1:=⟨f-1,by simp only [qf] at p;omega⟩;have h2:=s (f:=g) (by simp only [qf] at p;omega) u j (by
   have e:g+1-(i::b).length=g-b.length:=by simp only [qf];omega
   rw [e] at h;exact h)
  exact Xg (ZS hi) (Qi z) (Kw y) (λc a w h=>by
   rcases hd:o.dst with _|d
   ·rw [hd] at h;exact h
   ·rw [hd] at h;exact r _ c a w h) g _ a w (JV (ZS hi) c1) (by simpa using c2) (by
   rcases q with⟨l,k⟩|⟨l,k⟩
   ·exact Or.inl ⟨l,k⟩
   ·exact Or.inr ⟨l,k⟩) x h2
theorem zq (b:List Nat) (h:jR P md ops Q S n (f-b.length) (Rg b listed) a' w) (k:b.length<=f:=by decide) (j:Region.noSelect ops=true:=by kernel_rfl) (d:RF md ops n b listed=true:=by kernel_rfl) (e: ∀t c a w,Q (.panic c) {a with tmps:=t} w->Q (.panic c) a w:=by exact λ_ _ _ _ h=>h) (g:S w:=by assumption) (l:DS P ops S b a a':=by(repeat (first|refine Ns rfl SQ ?_|(refine NW (v:= ?_) rfl SQ ?_ ?_;rotate_left;(intro W i;(try dsimp only at i);go_simp;first|done|with_reducible rfl))));(try simp only [Act.put,qQ,qY,qV]);exact iS _):jR P md ops Q S n f listed a w:=Rh b k j d e g l h
def OV (b:Region.Mode) (a:Array Oper):List Nat->Array Bool->Bool
 |[],_=>true
 |i::c,l=>Region.free b a l i&&(Region.ready b a l).contains i&&OV b a c (l.setIfInBounds i true)
theorem Iq (b:List Nat) (p:b.length<=f) (x:Region.noSelect ops=true) (m:OV md ops b listed=true) (r: ∀t c a w,Q (.panic c) {a with tmps:=t} w->Q (.panic c) a w) (j:DS P ops (λ_=>True) b a a') (h:jR P md ops Q S n (f-b.length) (Rg b listed) a' w):jR P md ops Q S n f listed a w:=by
 induction b generalizing f listed a with
 |nil=>
  have e:a'=a:=j;subst e;exact h
 |cons i b s=>
  obtain⟨o,rest,v,hi,q,j⟩:=j;simp only [OV,zR] at m;obtain⟨⟨c1,c2⟩,u⟩:=m;obtain⟨g,rfl⟩: ∃g,f=g+1:=⟨f-1,by simp only [qf] at p;omega⟩;have h2:=s (f:=g) (by simp only [qf] at p;omega) u j (by
   have e:g+1-(i::b).length=g-b.length:=by simp only [qf];omega
   rw [e] at h;exact h)
  exact eQ (ZS hi) (Qi x) (λc a w h=>by
   rcases hd:o.dst with _|d
   ·rw [hd] at h;exact h
   ·rw [hd] at h;exact r _ c a w h) g _ a w (JV (ZS hi) c1) (by simpa using c2) (by
   rcases q with⟨l,k⟩|⟨l,k⟩
   ·exact Or.inl ⟨l,k⟩
   ·exact Or.inr ⟨l,k⟩) h2
theorem Z6 (b:List Nat) (h:jR P md ops Q S n (f-b.length) (Rg b listed) a' w) (i:b.length<=f:=by decide) (g:Region.noSelect ops=true:=by kernel_rfl) (d:OV md ops b listed=true:=by kernel_rfl) (e: ∀t c a w,Q (.panic c) {a with tmps:=t} w->Q (.panic c) a w:=by exact λ_ _ _ _ h=>h) (j:DS P ops (λ_=>True) b a a':=by(repeat (first|refine Ns rfl SQ ?_|(refine NW (v:= ?_) rfl SQ ?_ ?_;rotate_left;(intro W k;go_simp;first|done|with_reducible rfl))));(try simp only [Act.put,qQ,qY,qV]);exact iS _):jR P md ops Q S n f listed a w:=Iq b i g d e j h
theorem XW (i:Nat) {rest:List Oper} (hi:ops.toList.drop i=c::rest) (d:Region.ready md ops listed=[i]) (h: ∀b:Act->World->Prop,Shut (∀a w,(i<n->S w)->((i<n->S w)->jR P md ops Q S n fuel (listed.setIfInBounds i true) a w)->b a w)->if Region.wanted c (yielded ops a.tmps)=true then Oper.wp P c a w b Q else b (a.put c.dst undef) w):jR P md ops Q S n (fuel+1) listed a w:=by
 refine⟨λh0=>absurd (h0.symm.trans d) s8,λj f=> ?_⟩;rw [d] at f;obtain rfl:j=i:=by simpa using f
 exact wpOp_step (ZS hi) (λb g=>h b (λa w e k=>g a w ⟨λhi _=>e hi,k e⟩))
theorem carried (i:Nat) {rest:List Oper} (hi:ops.toList.drop i=c::rest) (e:Region.ready md ops listed=[i]) (g:Region.wanted c (yielded ops a.tmps)=true) (h: ∀b:Act->World->Prop,Shut (∀a w,S w->(S w->jR P md ops Q S n fuel (listed.setIfInBounds i true) a w)->b a w)->Oper.wp P c a w b Q):jR P md ops Q S n (fuel+1) listed a w:=
 XW i hi e λb f=>by rw [qk g];exact h b λa w d j=>f.out a w (λ_=>d) λ_=>j d
theorem vf (i:Nat) {rest:List Oper} {f:FuncId} {args:Array Value} {R:Ending->World->Prop} (K:Go.RowKit.Hid (Calls P f args w R)) (h: ∀e w',R e w'-> ∃v,e= .returned v/\S w'/\(S w'->jR P md ops Q S n fuel (listed.setIfInBounds i true) (a.put b.dst v) w')) (hi:ops.toList.drop i=b::rest:=by exact rfl) (c:Region.ready md ops listed=[i]:=by kernel_rfl) (l:Region.wanted b (yielded ops a.tmps)=true:=by rfl) (m:(execOp a.eval b).run P w= .ok (.enter f args) w:=by(try simp only [Act.put,qQ,qY,qV]);go_simp;first|done|rfl):jR P md ops Q S n (fuel+1) listed a w:=
 carried i hi c l λo g=>by
  unfold Oper.wp;rw [m,Oper.upon_enter];refine K.mono λe w' j=> ?_;obtain⟨v,rfl,k,d⟩:=h e _ j;exact g _ _ k d
theorem QY (i:Nat) {rest:List Oper} (hi:ops.toList.drop i=c::rest) (e:Region.ready md ops listed=[i]) (h: ∀b:Act->World->Prop,Shut (∀a w,S w->(S w->jR P md ops Q S n fuel (listed.setIfInBounds i true) a w)->b a w)->if Region.wanted c (yielded ops a.tmps)=true then Oper.wp P c a w b Q else b (a.put c.dst undef) w):jR P md ops Q S n (fuel+1) listed a w:=
 XW i hi e λb f=>h b λa w d g=>f.out a w (λ_=>d) λ_=>g d
theorem j4 (i:Nat) {rest:List Oper} (hi:ops.toList.drop i=c::rest) (d:Region.ready md ops listed=[i]) (e: ¬i<n) (g:Region.wanted c (yielded ops a.tmps)=true) (h: ∀b:Act->World->Prop,Shut (∀a w,jR P md ops Q S n fuel (listed.setIfInBounds i true) a w->b a w)->Oper.wp P c a w b Q):jR P md ops Q S n (fuel+1) listed a w:=
 XW i hi d λb f=>by rw [qk g];exact h b λa w j=>f.out a w (λh=>absurd h e) λ_=>j
theorem zV (b:Region.ready md ops listed=[]) (h:Q .normal a w): ∀fuel,jR P md ops Q S n fuel listed a w
 |0=>⟨b,h⟩
 |_+1=>⟨λ_=>h,by rw [b];simp⟩
theorem zv (n:Nat) (S:World->Prop) {b:Nat} (c:P.follows .mixedOrders=true) (d:S w.drew) (h:S w.drew->jR P .any ops Q S n ops.size (Array.replicate ops.size false) a w.drew):(Code.region b ops true).wp P Q a w:=
 wp_region_any c (Xw _ _ _ _ (h d))
end
section
variable {D p q:Nat}{b:qn}{k:UInt8×UInt8×UInt8}{t:Nat×Nat}
def f_ (b:qn) (p at_ k:Nat):Bool:=decide (at_+k<b.length)&&(b.getD (p+k) 0==b.getD (at_+k) 0)
def uZ (b:qn) (p at_:Nat):Nat->Nat->Nat
 |0,k=>k
 |f+1,k=>if f_ b p at_ k=true then uZ b p at_ f (k+1) else k
def Z3 (b:qn) (p at_:Nat):Nat:=uZ b p at_ 257 0
theorem wX (b:qn) (p at_:Nat): ∀f k,uZ b p at_ f k<=k+f
 |0,k=>qx k
 |f+1,k=>by
  unfold uZ;split
  ·have:=wX b p at_ f (k+1);omega
  ·omega
theorem wV (b:qn) (p at_:Nat): ∀f k j,k<=j->j<uZ b p at_ f k->f_ b p at_ j=true
 |0,k,j,h1,h2=>absurd h2 (by unfold uZ;omega)
 |f+1,k,j,h1,h2=>by
  unfold uZ at h2;split at h2
  ·rename_i c
   rcases Nat.eq_or_lt_of_le h1 with rfl|a
   ·exact c
   ·exact wV b p _ f _ j a h2
  ·omega
theorem Hh (b:qn) (p at_:Nat): ∀f k,uZ b p at_ f k<k+f->f_ b p at_ (uZ b p at_ f k)=false
 |0,k,h=>absurd h (by unfold uZ;omega)
 |f+1,k,h=>by
  unfold uZ at h⊢;split
  ·rename_i a
   rw [qk a] at h;exact Hh b p _ f _ uK
  ·rename_i a
   simpa using a
theorem wY (b:qn) (p at_:Nat):Z3 b p at_<=257:=by
 have:=wX b p at_ 257 0;unfold Z3;omega
theorem D3 (b:qn) (p at_ j:Nat) (h:j<Z3 b p at_):f_ b p at_ j=true:=wV b p _ _ 0 j (qp _) h
theorem sG (b:qn) (p at_:Nat) (h:Z3 b p at_<257):f_ b p at_ (Z3 b p at_)=false:=Hh b p _ _ 0 (by unfold Z3 at h;omega)
theorem ND (b:qn) (p at_:Nat) (h:at_<=b.length):at_+Z3 b p at_<=b.length:=by
 rcases zA (Z3 b p at_) with h0|h0
 ·omega
 ·have:=D3 b p at_ (Z3 b p at_-1) uK;unfold f_ at this;simp only [zR,zd] at this;omega
def JQ (b:qn) (i:Nat):UInt8×UInt8×UInt8:=(b.getD i 0,b.getD (i+1) 0,b.getD (i+2) 0)
theorem fu {at_:Nat} (h:3<=Z3 b p at_):JQ b p=JQ b at_:=by
 have h0:=D3 b p at_ 0 uK;have h1:=D3 b p at_ 1 uK;have h2:=D3 b p at_ 2 uK;unfold f_ at h0 h1 h2;simp only [zR,yp,v_] at h0 h1 h2;unfold JQ;rw [h0.2,h1.2,h2.2]
theorem Nf {at_:Nat} (h:JQ b p=JQ b at_) (e:at_+3<=b.length):3<=Z3 b p at_:=by
 unfold JQ at h;simp only [Prod.mk.injEq] at h;obtain⟨h0,h1,h2⟩:=h;rcases jE (Z3 b p at_) 3 with f|d
 ·have a:=sG b p at_ uK;exfalso;have c:Z3 b p at_=0\/Z3 b p at_=1\/Z3 b p at_=2:=uK;unfold f_ at a;rcases c with c|c|c<;>rw [c] at a
  ·rw [v_,v_,h0] at a;simp at a;omega
  ·rw [h1] at a;simp at a;omega
  ·rw [h2] at a;simp at a;omega
 ·exact d
def VK (b:qn) (at_:Nat):Nat->Nat×Nat
 |0=>(0,0)
 |D+1=>if(VK b at_ D).1<Z3 b (at_-(D+1)) at_ then(Z3 b (at_-(D+1)) at_,D+1) else VK b at_ D
def win (at_:Nat):Nat:=min 4095 at_
def DA (b:qn) (at_:Nat):Nat×Nat:=VK b at_ (win at_)
theorem fU (b:qn) (at_:Nat) (h:at_<=b.length): ∀D,at_+(VK b at_ D).1<=b.length
 |0=>by unfold VK;omega
 |D+1=>by
  have h2:=fU b _ h D;unfold VK;split
  ·exact ND _ _ _ h
  ·exact h2
def Va (s:Nat×Nat) (t:Nat×Nat):Prop:=(3<=s.1/\t=s)\/(s.1<3/\t=(0,0))
theorem sH (b:qn) (at_:Nat):Va (VK b at_ 0) (0,0):= .inr ⟨by unfold VK;omega,rfl⟩
theorem PJ {at_:Nat}: ∀(n D:Nat),(∀d,D<d->d<=D+n->Z3 b (at_-d) at_<3)->Va (VK b at_ D) t->Va (VK b at_ (D+n)) t
 |0,D,_,a=>a
 |n+1,D,h,a=>by
  have c:=PJ n D (λd h1 h2=>h d h1 uK) a;have e:=h (D+n+1) uK uK;show Va (VK b at_ (D+n+1)) t
  unfold VK;rcases c with⟨h3,rfl⟩|⟨h3,rfl⟩
  ·rw [qJ uK];exact .inl ⟨h3,rfl⟩
  ·split
   ·exact .inr ⟨e,rfl⟩
   ·exact .inr ⟨h3,rfl⟩
theorem an {at_:Nat} (a:Va (VK b at_ D) t) (ht:257<=t.1): ∀n,Va (VK b at_ (D+n)) t
 |0=>a
 |n+1=>by
  have c:=an a ht n;show Va (VK b at_ (D+n+1)) t;unfold VK;have d:=wY b (at_-(D+n+1)) at_;rcases c with⟨h3,rfl⟩|⟨_,rfl⟩
  ·rw [qJ uK];exact .inl ⟨h3,rfl⟩
  ·exact absurd ht s8
theorem NF {at_:Nat} (c:Va (VK b at_ D) t) (a:3<=Z3 b (at_-(D+1)) at_):
  Va (VK b at_ (D+1)) (if t.1<Z3 b (at_-(D+1)) at_ then(Z3 b (at_-(D+1)) at_,D+1) else t):=by
 unfold VK;rcases c with⟨h3,rfl⟩|⟨h3,rfl⟩
 ·split
  ·exact .inl ⟨a,rfl⟩
  ·exact .inl ⟨h3,rfl⟩
 ·rw [qk uK,qk (by show 0<_;omega)];exact .inl ⟨a,rfl⟩
def Ko (b:qn):Nat->UInt8×UInt8×UInt8->Option Nat
 |0,_=>none
 |m+1,k=>if m+3<=b.length/\JQ b m=k then some m else Ko b m k
theorem YI: ∀{m p:Nat},Ko b m k=some p->p<m/\p+3<=b.length/\JQ b p=k/\ ∀q,p<q->q<m->q+3<=b.length->JQ b q≠k
 |0,p,h=>by cases h
 |m+1,p,h=>by
  unfold Ko at h;split at h
  ·rename_i a
   cases h;exact⟨ze _,a.1,a.2,λq h1 h2=>uK⟩
  ·rename_i a
   obtain⟨h1,h2,h3,h4⟩:=YI h;refine⟨uK,h2,h3,λq e g d c=> ?_⟩;rcases jE q m with f|i
   ·exact h4 q e f d c
   ·have:q=m:=uK
    subst this;exact a ⟨d,c⟩
theorem Hi: ∀{m:Nat},Ko b m k=none-> ∀q,q<m->q+3<=b.length->JQ b q≠k
 |0,_,q,h,_=>uK
 |m+1,h,q,f,a=>by
  unfold Ko at h;split at h
  ·cases h
  ·rename_i d
   intro c;rcases jE q m with e|g
   ·exact Hi h q e a c
   ·have:q=m:=uK
    subst this;exact d ⟨a,c⟩
def da:Option Nat->Int
 |some p=>(p:Int)
 |none=> -1
def FE (b:qn) (p:Nat):Int:=if p+3<=b.length then da (Ko b p (JQ b p)) else-1
def PO (b:qn) (m:Nat):List Int:=(List.range m).map (FE b)
theorem fD (b:qn) (m:Nat):PO b (m+1)=PO b m++[FE b m]:=by simp [PO,jA]
theorem PX (b:qn) (m:Nat):(PO b m).length=m:=by simp [PO]
theorem Ng (b:qn) (m p:Nat) (h:p<m):(PO b m)[p]? =some (FE b p):=by
 unfold PO;rw [qD,jJ h];rfl
theorem sB {at_:Nat} (i:at_+3<=b.length) (m:q<=at_) (g:Va (VK b at_ (at_-q)) t) (k:Ko b q (JQ b at_)=some p):
  p<q/\3<=Z3 b p at_/\Va (VK b at_ (at_-p)) (if t.1<Z3 b p at_ then(Z3 b p at_,at_-p) else t):=by
 obtain⟨h1,h2,h3,h4⟩:=YI k;have a:=Nf h3 i;refine⟨h1,a, ?_⟩;have j:=PJ (q-1-p) _ (λd n l=>by
  rcases jE (Z3 b (at_-d) at_) 3 with h|h
  ·exact h
  ·exact absurd (fu h) (h4 _ uK uK uK)) g
 have e:at_-q+(q-1-p)+1=at_-p:=uK;have c:at_-(at_-q+(q-1-p)+1)=p:=uK;have f:=NF j (by rw [c];exact a);rw [c,e] at f;exact f
theorem pV {at_:Nat} (f:at_+3<=b.length) (j:q<=at_) (i:at_-q<=win at_) (c:Va (VK b at_ (at_-q)) t) (e:Ko b q (JQ b at_)=none):Va (DA b at_) t:=by
 have a:=PJ (win at_-(at_-q)) _ (λd l k=>by
  rcases jE (Z3 b (at_-d) at_) 3 with h|h
  ·exact h
  ·have g:win at_<=at_:=Nat.min_le_right _ _;exact absurd (fu h) (Hi e _ uK uK)) c
 rw [show at_-q+(win at_-(at_-q))=win at_ by omega] at a;exact a
theorem Gh {at_:Nat} (f:at_+3<=b.length) (k:q<=at_) (i:at_-q<=win at_) (c:Va (VK b at_ (at_-q)) t) (e:Ko b q (JQ b at_)=some p) (l:4095<at_-p):Va (DA b at_) t:=by
 obtain⟨h1,h2,h3,h4⟩:=YI e;have g:win at_=4095:=by unfold win;omega
 have a:=PJ (win at_-(at_-q)) _ (λd m j=>by
  rcases jE (Z3 b (at_-d) at_) 3 with h|h
  ·exact h
  ·exact absurd (fu h) (h4 _ uK uK uK)) c
 rw [show at_-q+(win at_-(at_-q))=win at_ by omega] at a;exact a
theorem GH {at_:Nat} (d:at_-q<=win at_) (c:Va (VK b at_ (at_-q)) t) (ht:257<=t.1):Va (DA b at_) t:=by
 have a:=an c ht (win at_-(at_-q));rw [show at_-q+(win at_-(at_-q))=win at_ by omega] at a;exact a
theorem Ry {at_:Nat} (a:b.length<at_+3) (h:at_<=b.length):Va (DA b at_) (0,0):=by
 have:=fU b _ h (win at_);exact .inr ⟨by unfold DA;omega,rfl⟩
def Fa (b:qn) (at_:Nat):Nat:=if 3<=(DA b at_).1 then(DA b at_).1 else 1
def GF (b:qn) (at_:Nat):Nat×Nat×Nat:=if 3<=(DA b at_).1 then(0,(DA b at_).1,(DA b at_).2) else((b.getD at_ 0).toNat,0,0)
def cV (b:qn):Nat->Nat->List (Nat×Nat×Nat)
 |0,_=>[]
 |f+1,at_=>if at_<b.length then GF b at_::cV b f (at_+Fa b at_) else []
def P9 (b:qn):List (Nat×Nat×Nat):=cV b b 0
theorem Ho (b:qn) (at_:Nat):1<=Fa b at_:=by unfold Fa;split<;>omega
theorem H6 (b:qn) (at_:Nat) (h:at_<b.length):at_+Fa b at_<=b.length:=by
 unfold Fa;split
 ·exact fU b _ uK _
 ·omega
theorem PV (b:qn): ∀f g at_,b.length-at_<=f->b.length-at_<=g->cV b f at_=cV b g at_
 |0,0,_,_,_=>rfl
 |0,g+1,at_,h,_=>by unfold cV;rw [qJ uK]
 |f+1,0,at_,_,h=>by unfold cV;rw [qJ uK]
 |f+1,g+1,at_,h1,h2=>by
  unfold cV;split
  ·have:=Ho b at_
   rw [PV b f g _ uK uK]
  ·rfl
def gL (b:qn) (at_:Nat):List (Nat×Nat×Nat):=cV b b at_
theorem NG (b:qn) (at_:Nat) (h:b.length<=at_):gL b at_=[]:=by
 unfold gL;rw [PV b b 0 at_ uK uK];rfl
theorem H8 (b:qn) (at_:Nat) (h:at_<b.length):gL b at_=GF b at_::gL b (at_+Fa b at_):=by
 have:=Ho b at_;unfold gL;obtain⟨m,a⟩: ∃m,b.length=m+1:=⟨b.length-1,uK⟩;rw [PV b b (m+1) at_ uK uK];show(if at_<b.length then GF b at_::cV b m (at_+Fa b at_) else [])=_;rw [qk h,PV b m b _ uK uK]
def YB (b len a:Int):Bool:=if len=0 then decide (a=0) else decide (b=0/\3<=len/\len<=257/\1<=a/\a<=4095)
def PI (d:Nat):Nat->qn->qn
 |0,a=>a
 |n+1,a=>PI d n (a++[a.getD (a.length-d) 0])
def Vk (b:Int):List (Nat×Int×Int)->qn->Int×qn
 |[],a=>(0,a)
 |t::r,a=>
  if YB (t.1:Int) t.2.1 t.2.2=false then(7,[])
  else if(a.length:Int)<t.2.2 then(8,[])
  else if b-(a.length:Int)<max 1 t.2.1 then(6,[])
  else if t.2.1=0 then Vk b r (a++[UInt8.ofNat t.1])
  else Vk b r (PI t.2.2.toNat t.2.1.toNat a)
theorem pY (b:Int) (t:Nat×Int×Int) (r:List (Nat×Int×Int)) (a:qn):Vk b (t::r) a=
  (if YB (t.1:Int) t.2.1 t.2.2=false then(7,[])
  else if(a.length:Int)<t.2.2 then(8,[])
  else if b-(a.length:Int)<max 1 t.2.1 then(6,[])
  else if t.2.1=0 then Vk b r (a++[UInt8.ofNat t.1])
  else Vk b r (PI t.2.2.toNat t.2.1.toNat a)):=rfl
def Yc (a:Int) (l:List (Nat×Int×Int)):Int×qn:=if a<0 then(13,[]) else Vk a l []
theorem H4 {b len a:Int} (h:YB b len a=true):(len=0/\a=0)\/(b=0/\3<=len/\len<=257/\1<=a/\a<=4095):=by
 unfold YB at h;split at h
 ·rename_i h0;exact .inl ⟨h0,by simpa using h⟩
 ·exact .inr (by simpa using h)
end
section
open Go
theorem QU {a b:Bool} (c:a=true) (d:b=true):(a&&b)=true:=by rw [c,d];rfl
theorem NU {P:Program} {f:FuncId} {a:Func} {s:ChangeSpec} {c:OpenClaim}
  (b:(c.wf (OpenSpec.ofChange s))=true)
  (i:(laidOutB P)=true)
  (d:(mapsRowed P)=true)
  (k3:(a.params.all (P.readableRec ·))=true)
  (l:(namedTie P c.named s.vars)=true)
  (w:((c.stops==[]))=true)
  (z:((P.stops==[]))=true)
  (j:((c.knobs==[]))=true)
  (p:((P.stopKnobs==[]))=true)
  (k9:((c.inPlace==P.inPlace f))=true)
  (k10:((c.unfollowed==P.unfollowed f))=true)
  (k11:((c.recurses==P.recurses f))=true)
  (k12:((c.named==P.varsNamed f))=true)
  (A:((c.maps==(a.params.toList++s.plain.varTypes P).any (P.mapsRec ·)))=true)
  (C:((c.ifaces==(a.params.toList++s.plain.varTypes P).any (P.ifacesRec ·)))=true)
  (E:((c.mapsOut==P.mapsAmong a.resultTypes.toList))=true)
  (u:((c.loops==(a.params.toList++s.plain.varTypes P).any (P.loopsFrom ·)))=true)
  (B:((c.wideKeys==(a.params.toList++s.plain.varTypes P++a.resultTypes.toList).any (P.wideKeysFrom ·)))=true)
  (x:(s.vars.all (P.varReadable ·))=true)
  (v:(a.resultTypes.all (λt=>P.readableRec t&&decide (t<P.types.size)))=true)
  (m:((c.ifacesOut==a.resultTypes.toList.any (P.ifacesRec ·)))=true)
  (q:((c.loopsOut==a.resultTypes.toList.any (P.loopsFrom ·)))=true)
  (k22:((c.plainKeys==P.plainKeys))=true)
  (h:(c.shortTexts.isNone)=true)
  (n:(P.stopsHeard)=true)
  (o:(P.mayEnter)=true)
  (k26:((c.lifted==P.liftsFinal))=true)
  (D:((P.make==some c.make))=true)
  (g:((c.kinds==(if c.domain.isEmpty then [] else a.params.toList.map λt=>match P.underlying t with|some (.int k)=>some k|_=>none)))=true)
  (r:((c.pinned==c.pinnedBy))=true)
  (y:((c.veiled==(a.params.toList++s.plain.varTypes P++a.resultTypes.toList).any (P.veiledRec ·)))=true)
  (e:(c.veiledFits P a.params.toList (a.params.toList++s.plain.varTypes P++a.resultTypes.toList))=true):
  joinedFacts P f a s c=true:=by
 unfold joinedFacts;exact QU (QU (QU (QU (QU (QU (QU (QU (QU (QU (QU (QU (QU (QU (QU (QU (QU (QU (QU (QU (QU (QU (QU (QU (QU (QU (QU (QU (QU (QU (QU b i) d) k3) l) w) z) j) p) k9) k10) k11) k12) A) C) E) u) B) x) v) m) q) k22) h) n) o) k26) D) g) r) y) e
theorem Lv:laidOutB Tryz.pinned.checked.prog=true:=AL
theorem Ly:mapsRowed Tryz.pinned.checked.prog=true:=AL
theorem Im:Tryz.pinned.checked.prog.stopsHeard=true:=AL
theorem IM:Tryz.pinned.checked.prog.mayEnter=true:=AL
end
end Go.Proofs.YtfnlfpcfkbdcmaaGreatDoor
