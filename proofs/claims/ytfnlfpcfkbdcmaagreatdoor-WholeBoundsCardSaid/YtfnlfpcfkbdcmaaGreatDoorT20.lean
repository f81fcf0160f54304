import Derived.Test.YtfnlfpcfkbdcmaaGreatDoorT15
import Derived.Test.YtfnlfpcfkbdcmaaGreatDoorT17
set_option linter.unusedSimpArgs false
set_option linter.unusedVariables false
set_option maxRecDepth 100000
set_option maxHeartbeats 0
open Go.Proofs.Tryz
namespace Go.Proofs.YtfnlfpcfkbdcmaaGreatDoor
open Go.RowKit
section
variable {A:q'}{N cap gc go n rc:O}{W W':I}{b:qn}{bk:V}{bsl:la}{c c':Cu}{pl:Bool}
theorem VT (v b k d q c:V) (p:Bool):chk v b k d q c=vM v ⟨b,p,k,d,q,c⟩:=by
 unfold chk vM;by_cases f:v<1\/3<v
 ·rw [qk f,qk f]
 ·rw [qJ f,qJ f];have h:v=1\/v=2\/v=3:=M;unfold stp Fk;dsimp only;by_cases g:16<=b/\b<=32768
  ·rw [qw g,qJ s8];rcases h with rfl|rfl|rfl
   ·rw [qk rfl];by_cases a:k=0/\d=0/\q=0/\c=0
    ·rw [qk a,qk M]
    ·rw [qJ a,qJ M]
   ·rw [qJ FV];by_cases e:1<=k/\k<=64
    ·rw [qw e,qJ s8,qk rfl];by_cases a:d=0/\q=0/\c=0
     ·rw [qk a,qk M]
     ·rw [qJ a,qJ M]
    ·rw [qc e,qk rfl,qJ M]
   ·rw [qJ FV];by_cases e:1<=k/\k<=64
    ·rw [qw e,qJ s8,qJ FV];by_cases a:(1<=d/\d<=255)/\(0<=q/\q<=255-d)/\(1<=c/\c<=4096)
     ·rw [qw a.1,qw a.2.1,qw a.2.2,qk (show(true&&(true&&true))=true from rfl),qk M]
     ·rw [qJ (by simp only [zR,zd];exact a),qJ M]
    ·rw [qc e,qk rfl,qJ M]
  ·rw [qc g,qk rfl,qJ M]
def orA (e:O) (b:la) (a:V) (d:Bool) (c n:O):Array Value:= #[mJ e,b,a,d,(),(),(),(),c,n]
theorem fX (b:O) (a:la) (c:V) (e:Bool) (d n:O) (g:V) (f:Bool) (h i:O):
  (orA b a c e d n).setIfInBounds 2 g=orA b a g e d n/\(orA b a c e d n).setIfInBounds 3 f=orA b a c f d n/\
  (orA b a c e d n).setIfInBounds 8 h=orA b a c e h n/\(orA b a c e d n).setIfInBounds 9 i=orA b a c e d i:=by simp [orA]
structure OR (W:I) (go gc:O) (bsl:la) (bk:V) (pl:Bool) (rc n:O) (A:q') (N cap:O) (b:qn) (c:Cu):Prop where
 blk:F' W go 121 (orA gc bsl bk pl rc n)
 cur:Lr W gc A N cap b c
 ne:go≠gc
theorem OR.step (h:OR W go gc bsl bk pl rc n A N cap b c) (a:Lr W' gc A N cap b c') (d:qE [gc] W W'):OR W' go gc bsl bk pl rc n A N cap b c':=
 ⟨d.blk h.blk (by simpa using h.ne),a,h.ne⟩
theorem OR.fresh (h:OR W go gc bsl bk pl rc n A N cap b c) (a:r' W W W'):OR W' go gc bsl bk pl rc n A N cap b c:=h.step (h.cur.fresh a) (qE.jq a)
theorem OR.drew (h:OR W go gc bsl bk pl rc n A N cap b c):OR W.drew go gc bsl bk pl rc n A N cap b c:=h.fresh ((Dr.refl W|>.drewN 1).below _)
theorem OR.fp (h:OR W go gc bsl bk pl rc n A N cap b c): ∀k∈K' A,k≠go:=qT h.cur.own h.blk FV
theorem OR.Xm (h:OR W go gc bsl bk pl rc n A N cap b c) (i:O) (u:la):Lr (W.setCell ⟨go,i,none⟩ u) gc A N cap b c:=
 h.cur.jZ ((qE.refl [go] W).zh (qy.2 rfl) u) (by simpa using λe=>h.ne e.symm) (λk a=>by simpa using h.fp k a)
theorem OR.GS (h:OR W go gc bsl bk pl rc n A N cap b c) (v:V):OR (W.setCell ⟨go,2,none⟩ v) go gc bsl v pl rc n A N cap b c:=⟨by have:=h.blk.zh 2 v;rwa [(fX gc bsl bk pl rc n v pl rc n).1] at this,h.Xm 2 _,h.ne⟩
theorem OR.gJ (h:OR W go gc bsl bk pl rc n A N cap b c) (v:Bool):OR (W.setCell ⟨go,3,none⟩ v) go gc bsl bk v rc n A N cap b c:=⟨by have:=h.blk.zh 3 v;rwa [(fX gc bsl bk pl rc n bk v rc n).2.1] at this,h.Xm 3 _,h.ne⟩
theorem OR.lP (h:OR W go gc bsl bk pl rc n A N cap b c) (v:O):OR (W.setCell ⟨go,8,none⟩ v) go gc bsl bk pl v n A N cap b c:=⟨by have:=h.blk.zh 8 v;rwa [(fX gc bsl bk pl rc n bk pl v n).2.2.1] at this,h.Xm 8 _,h.ne⟩
theorem OR.lu (h:OR W go gc bsl bk pl rc n A N cap b c) (v:O):OR (W.setCell ⟨go,9,none⟩ v) go gc bsl bk pl rc v A N cap b c:=⟨by have:=h.blk.zh 9 v;rwa [(fX gc bsl bk pl rc n bk pl rc v).2.2.2] at this,h.Xm 9 _,h.ne⟩
theorem OR.cell (h:OR W go gc bsl bk pl rc n A N cap b c) (i:O):i' W ⟨go,i,none⟩=(orA gc bsl bk pl rc n)[i]? :=h.blk.cell i
theorem OR.c0 (h:OR W go gc bsl bk pl rc n A N cap b c):i' W go=J (mJ gc):=h.cell 0
theorem OR.frz (h:OR W go gc bsl bk pl rc n A N cap b c) (i:O):W.frozen? ⟨go,i,none⟩=false:=h.blk.frozen i
def BF (W:I) (d a:O) (f:la) (A:q') (N cap:O) (b:qn) (r:V×Lx×O×O×Cu) (e:Ending) (c:I):Prop:=
 e=t' (e' r.1)/\OR c d a f r.2.1.blk r.2.1.plain r.2.2.1 r.2.2.2.1 A N cap b r.2.2.2.2/\qE [d,a] W c
theorem Ew (W:I) (a m:O) (O':la) (A:q') (N cap:O) (b:qn) (h:OR W a m O' 0 false 0 0 A N cap b ⟨0,0⟩):
  xG 77 #[mJ a] W (BF W a m O' A N cap b (ph b)):=by
 have H:=T h;have K1:=T (yK W m A N cap b ⟨0,0⟩ 32768 h.cur M);obtain⟨R,f⟩:=zn (ph b);rw [<-f];unfold ph at f;dsimp only at f;generalize jU b 32768 ⟨0,0⟩=k at*;obtain⟨i,kc⟩:=k;have cB:=T (λW (h:Lr W m A N cap b kc)=>QS W m A N cap b kc h);dsimp only at f K1;generalize j_ b kc=p at*;obtain⟨v,pc⟩:=p;dsimp only at f cB;obtain⟨L,uK⟩:=zn (if 1<v.toNat then vP pc 2 else pc);rw [<-uK] at f;have qj:=T (λW (h:Lr W m A N cap b L)=>yK W m A N cap b L 20000 h M);have hrv:(jU b 20000 L).1<=20000:=by
  unfold jU;dsimp only;split
  ·omega
  ·have:=Yi (b.drop L.at_) 20000 M;omega
 generalize jU b 20000 L=r at*;obtain⟨g,G'⟩:=r;dsimp only at f qj hrv;have cK:=T (λW (h:Lr W m A N cap b G')=>yK W m A N cap b G' (g:V) h M);generalize jU b (g:V) G'=nn at*;obtain⟨t,l⟩:=nn;dsimp only at f cK;have P':B8 v=gR (v.toNat:V):=rfl;rw [P'] at cB;have N9:decide (v=1)=decide (v.toNat=1):=by
  by_cases h:v=1
  ·subst h;rfl
  ·have:v.toNat≠1:=λe=>h (jG.1 e);rw [qc h,qc this]
 rw [N9] at f;have hy:=v.toNat_lt;generalize v.toNat=y at*;replace f:=T f;replace uK:=T uK;unfold jS at K1 cB qj cK;have q0:=h.c0;clear h P' N9;go_in;go_wp2_with fail;refine zC K1 ?_;rintro w1 ⟨OX,N6⟩;have u':=H.step OX N6;have f1:=u'.frz 2;have g1:i' w1 ⟨a,2,none⟩=J (e' 0):=u'.cell 2;have p':=T (u'.GS (i:V));have U':G (qE [a,m] W (w1.setCell ⟨a,2,none⟩ i)):=Qf (N6.mono (l':=[a,m]) λk hk=>by rw [qy.1 hk];simp) 2 i;have S':=T (cB _ p'.cur);have q2:=p'.c0;clear OX N6 u' q0;go_wp2_with fail;refine zC S' ?_;rintro w3 ⟨Y',J'⟩;have s:=T (p'.step Y' J');have z':=T (yv U' J');have q3:=s.c0;clear Y' J' q2 f1 g1;by_cases X':1<y
 focus
  have hy1':(1:V)<(y:V):=M;have K5:=T (yB w3 m A N cap b pc 2 s.cur);have F:=uK.out;rw [qk X'] at F;rw [<-F] at K5;unfold jS at K5;go_wp2_with fail;refine zC K5 ?_;rintro w4 ⟨Q',D'⟩;have ck:=T (s.step Q' D');have N':=T (yv z' D');have hd:((y:V)==1)=decide (y=1):=by
   rw [qc M];simp;omega
  clear Q' D' q3 F;generalize u:decide (y=1)=pl at*;replace u:=T u;have fa:=ck.frz 3;have ga:i' w4 ⟨a,3,none⟩=J (.bool false):=ck.cell 3;have x:=T (ck.gJ pl);have iL:=T (Qf N' 3 pl);have KA:=T (qj _ x.cur);have qa:=x.c0;have I':=ck.c0
 rotate_left
 focus
  have hy1': ¬(1:V)<(y:V):=M;have F:=uK.out;rw [qJ X'] at F;rw [<-F] at s;have hd:((y:V)==1)=decide (y=1):=by
   by_cases h:y=1
   ·subst h;rfl
   ·rw [qc h];simp;omega
  clear F q3;generalize u:decide (y=1)=pl at*;replace u:=T u;have fa:=s.frz 3;have ga:i' w3 ⟨a,3,none⟩=J (.bool false):=s.cell 3;have x:=T (s.gJ pl);have iL:=T (Qf z' 3 pl);have KA:=T (qj _ x.cur);have qa:=x.c0;have I':=s.c0
 all_goals
  go_wp2_with fail;refine zC KA ?_;rintro ln ⟨cY,D⟩;have w:=x.step cY D;have fb:=w.frz 8;have gb:i' ln ⟨a,8,none⟩=J (e' 0):=w.cell 8;have n:=T (w.lP g);have m':=T (Qf (yv iL D) 8 g);have KB:=T (cK _ n.drew.cur);have C:=n.c0;have ih:i' (ln.setCell ⟨a,8,none⟩ g) ⟨a,8,none⟩=J (g:la):=n.cell 8;clear cY D w qa I' fa ga;go_wp2_with fail;generalize ln.setCell ⟨a,8,none⟩ g=wc at*;clear fb gb;have hh:=n.ne;refine zv 10 (λW=>i' W a=J (mJ m)/\i' W ⟨a,8,none⟩=J (g:la)) AL ⟨C,ih⟩ (λd'=> ?_);refine zq [0,1,2,3,4,5] (a':= ?_) ?_;refine zq [6,7,8] (a':= ?_) ?_;refine IA 9 rfl AL SQ (λK c=> ?_);go_simp
  (go_at_call 107;((with_reducible refine(KB.out).mono ?_);rintro e wd ⟨rfl,X,o⟩);have B:=n.out.drew.step X o;have fd:=B.frz 9;have gd:i' wd ⟨a,9,none⟩=J (e' 0):=B.cell 9)
  refine c _ _ (⟨o.cell (p:= a) (by simpa using hh) C,o.cell (p:=⟨a,8,none⟩) (by simpa using hh) ih⟩) (λd'=> ?_);clear c K;try simp only [Act.put,qQ,qY,qV]
  refine j4 10 rfl AL FV SQ (λK c=> ?_);go_simp;refine c _ _ ?_;clear c K;try simp only [Act.put,qQ,qY,qV]
  refine j4 11 rfl AL FV SQ (λK c=> ?_);go_simp;refine c _ _ ?_;clear c K;try simp only [Act.put,qQ,qY,qV]
  refine j4 12 rfl AL FV SQ (λK c=> ?_);go_simp;refine c _ _ ?_;clear c K;try simp only [Act.put,qQ,qY,qV]
  refine zV AL ?_ _;have d:=T (B.lu t);have cL:=T (Qf (yv m'.drew o) 9 t);clear KB X o B C ih d' fd gd hh;generalize wd.setCell ⟨a,9,none⟩ t=j at*;have z:=T (jg j m A N cap b l d.cur);have qe:=d.c0;go_wp2_with fail;by_cases q:l.err=0
  ·have Q:G (R=(vM 1 ⟨(i:V),pl,0,0,0,0⟩,⟨(i:V),pl,0,0,0,0⟩,g,t,l)):=by rw [Hid,f.out,qJ (by simpa using q),<-u.out]
   have iv:=T (JX 1 (i:V) 0 0 0 0 pl j ⟨M,M⟩);rw [VT 1 (i:V) 0 0 0 0 pl] at iv;rw [q] at z;generalize vM 1 ⟨(i:V),pl,0,0,0,0⟩=CE at*;have z2:i' j ⟨a,2,none⟩=J (i:la):=d.cell 2;have z3:i' j ⟨a,3,none⟩=J (.bool pl):=d.cell 3;have z4:i' j ⟨a,4,none⟩=J (e' 0):=d.cell 4;have z5:i' j ⟨a,5,none⟩=J (e' 0):=d.cell 5;have z6:i' j ⟨a,6,none⟩=J (e' 0):=d.cell 6;have z7:i' j ⟨a,7,none⟩=J (e' 0):=d.cell 7;refine Ω z ?_;go_wp2_with fail;refine zC iv ?_;intro wf P;have HF:=T (d.fresh P);have M':=T (cL.fresh P);clear P z2 z3 z4 z5 z6 z7 qe;go_wp2;go_ret;unfold BF;rw [Q.out];exact⟨rfl,HF,M'⟩
  ·have Q:G (R=(l.err,⟨(i:V),pl,0,0,0,0⟩,g,t,l)):=by rw [Hid,f.out,qk (by simpa using q),<-u.out]
   have hzn:(l.err==0)=false:=by simpa using q
   have Z':(l.err !=0)=true:=by simpa using q
   generalize hE:l.err=E at*;replace hE:=T hE;refine Ω z ?_;go_wp2;go_ret;unfold BF;rw [Q.out];exact⟨rfl,d,cL⟩
theorem Vf (b:qn):mkV b=XQ b/\mkE b=V6 b:=⟨rfl,rfl⟩
def gU (W:I) (r:V×qn) (e:Ending) (b:I):Prop:=
 ∃c a,e=t' (BA #[Z c r.2 a,e' r.1])/\E' b b 1 c r.2 (r.2.map B8)/\U r.2<=a/\a<=maxLen/\r' W W b
theorem Cw (A:q') (n c:O) (b:qn) (W:I) (ht:Pl W) (h:E' W W 1 A n (b.map B8)) (w:n<=c) (u:c<=maxLen) (ln:n<=1000000000000):
  xG 75 #[Z A n c] W (gU W (kj b)):=by
 have i:=T (kt A n c W b W w u h);rw [(Vf b).1,(Vf b).2] at i;have f:=T (Vr A n c b W ht h w u ln);obtain⟨R,a⟩:=zn (kj b);rw [<-a];unfold kj at a;unfold Qr at f;generalize V6 b=E,XQ b=p at*;clear ht h;by_cases o:E=0
 focus
  subst o;rw [qJ s8] at a;by_cases q:p=1
  focus
   subst q;rw [qJ s8] at a;generalize QH b=s,vR b=vs at*;by_cases r:s=0
   focus
    subst r;rw [qJ s8] at a;by_cases h5:U vs<5
    focus
     have g:=T (a.trans (qk h5));have z:(U vs:V)<5:=M;clear a
    rotate_left
    focus
     have g:=T (a.trans (qJ h5));clear a;obtain⟨F,hi,H,t,N⟩:=qA QB
    rotate_left
   rotate_left 2
   focus
    have g:=T (a.trans (qk r));have C:(s==0)=false:=by simpa using r
    have B:(s !=0)=true:=by simpa using r
    clear a
   rotate_left
  rotate_left 3
  focus
   have g:=T (a.trans (qk q));have K:(p==1)=false:=by simpa using q
   have L:(p !=1)=true:=by simpa using q
   clear a
  rotate_left
 rotate_left 4
 focus
  have g:=T (a.trans (qk o));have C:(E==0)=false:=by simpa using o
  have B:(E !=0)=true:=by simpa using o
  clear a
 rotate_left
 all_goals
  go_in;go_wp2_with fail;refine Ω i ?_;go_wp2_with fail
 rotate_left
 ·refine f.mono ?_;rintro e v ⟨l,c2,rfl,d⟩;have m:=jC d.1;have hcut: ∀W,(Instr.slice 30 (Z l vs c2) (some (e' 5)) none none).run prog W= .ok (Z (xo l c2 5 1) (U vs-5) (c2-5)) W:=jI _ 5 F 1 qu hi t l _ _ 5 _ M;have D:=T (d.reads.VC (k:=5) M m.1);have j:=T d.2;have x:G (U vs-5<=c2-5/\c2-5<=maxLen):=by have:=m.1;have:=m.2;rw [Hid];omega
  clear d hi H t N m;have y:U (vs.drop 5)=U vs-5:=qI ..;go_wp2;go_ret2;unfold gU;rw [g.out];dsimp only;rw [y];exact⟨_,_,rfl,D,x.out.1,x.out.2,j⟩
 rotate_left
 ·go_ret2;unfold gU;rw [g.out];exact⟨none,0,rfl,E'.none_,qx _,FV,qZ _ _⟩
 ·go_ret2;unfold gU;rw [g.out];exact⟨none,0,rfl,E'.none_,qx _,FV,qZ _ _⟩
 all_goals
  refine f.mono ?_;rintro e v ⟨l,c2,rfl,d⟩;have j:=T d.2;clear d;go_wp2;go_ret2;unfold gU;rw [g.out];exact⟨none,0,rfl,E'.none_,qx _,FV,j⟩
end
section
variable {A Ab Ab' Ao:q'}{E:TypeId}{W W' w w' w2:I}{at_ b base c cb ch co g j k m n nb no:O}{bd:S O}{out:qn}
structure Rdr (W:I) (base g k m ch:O) (Ao:q') (no co:O) (Ab:q') (nb cb at_:O) (out:qn) (bd:S O):Prop where
 blk:F' W g 309 #[k,m,ch,Z Ao no co,Z Ab nb cb,at_]
 ge:base<=g
 oo:xp W base 5 1 (Z Ao no co) no (out.map B8)
 ob:xp W base 3 1 (Z Ab nb cb) nb (bd.map NV)
theorem Rdr.below (h:Rdr W base g k m ch Ao no co Ab nb cb at_ out bd) (a:r' W W W'):Rdr W' base g k m ch Ao no co Ab nb cb at_ out bd:=
 ⟨h.blk.below a h.blk.lt,h.ge,qG h.oo a,qG h.ob a⟩
theorem Xr {size:O} {d:S la} {f:Array la} (h:xp W base E size (Z A n c) n d) (k:F' W g 309 f) (m:E≠309) (u:la):xp (W.setCell ⟨g,j,none⟩ u) base E size (Z A n c) n d:=
 zI h λa i=>by
  refine jT W ⟨g,j,none⟩ u a.block (λe=> ?_);obtain⟨p,o,b⟩:=jV h g (by rw [i];exact zo _ e)
  have l:W.heap[g]? =J (Y f 309):=k;rw [l] at b;injection b with b
  injection b with _ b
  exact m b.symm
theorem g_ {d:Array la} {size:O} {k:S la} (f:F' W g 309 d) (h:xp W b E size (Z A n c) n k) (j:E≠309) (l:W.grownBy W' (A.map (·.block))):F' W' g 309 d:=
 f.grown l λe=>by
  obtain⟨m,o,a⟩:=jV h g e.symm;have i:W.heap[g]? =J (Y d 309):=f;rw [i] at a;injection a with a
  injection a with _ a
  exact j a.symm
theorem uR {g:TypeId} {size p l t:O} {f:q'} {i o:S la} (h:xp W b E size (Z A n c) n i) (q:xp W t g p (Z f j l) j o) (r:E≠g) (m:W.grownBy W' (f.map (·.block))):xp W' b E size (Z A n c) n i:=
 zI h λa s=>by
  obtain⟨w,v,k⟩:=jV h _ (by rw [s];rfl)
  refine m.block _ (jz k) (λe=> ?_);obtain⟨x,u,d⟩:=jV q _ e.symm;rw [k] at d;injection d with d
  injection d with _ ht
  exact r ht
structure Vc (w w':I) (g:O) (Ab Ab':q'):Prop where
 size:(w:O)<=(w':O)
 heap: ∀k,k<(w:O)->k≠g->Ab.map (·.block)≠some k->w'.heap[k]? =w.heap[k]?
 row: ∀k,Ab'.map (·.block)=some k->Ab.map (·.block)=some k\/(w:O)<=k
theorem Vc.below (h:r' w w w'):Vc w w' g Ab Ab:=⟨h.size,λk a _ _=>h.block k a,λk a=> .inl a⟩
theorem Vc.grown (h:Vc w w' g Ab Ab) (b:w'.grownBy w2 (Ab.map (·.block))) (c:JU w' Ab Ab'):Vc w w2 g Ab Ab':=
 ⟨qv h.size b.size,λk a h1 h2=>(b.block k (qB a h.size) (λe=>h2 e.symm)).trans (h.heap k a h1 h2),λk a=>by
  rcases c with h0|h0
  ·exact .inl (h0▸a)
  ·rw [h0] at a
   injection a with a
   exact .inr (a▸h.size)⟩
theorem Vc.zh (h:Vc w w' g Ab Ab') (j:O) (u:la):Vc w (w'.setCell ⟨g,j,none⟩ u) g Ab Ab':=
 ⟨by rw [zO];exact h.size,λk a h1 h2=>(jT w' ⟨g,j,none⟩ u k h1).trans (h.heap k a h1 h2),h.row⟩
def av (w:I) (base g k m ch:O) (j h:q') (no i at_:O) (l:qn) (f:S O) (a:qn) (e:Ending) (w':I):Prop:=
 ∃c d Ab' b n,e=t' (BA #[Z c (U (vR a)) d, .bool (Jd a)])/\xp w' w 5 1 (Z c (U (vR a)) d) (U (vR a)) ((vR a).map B8)/\
  Rdr w' base g k m ch j no i Ab' b n (at_+1) l (f++(if Jd a=true then [] else [at_]))/\b<=at_+1/\r' base w w'/\Vc w w' g h Ab'
theorem oq:(prog.info? 3).map (λi=>(i.zero,i.size,i.bytes))=J (some (e' 0),1,8):=AL
theorem O4 (base g k m ch no hh d z at_:O) (F o A:Option Addr) (n c:O) (N f:S AB) (P:S O) (w:I) (ht:Pl w) (hR:Rdr w base g k m ch F no hh o d z at_ N P) (hb:base<=(w:O)) (hr:E' w w 1 A n (f.map B8)) (I':n<=c) (G':c<=maxLen) (hn:n<=1000000000) (ha:at_<=1000000000) (N':d<=at_):
  xG 236 #[mJ g,Z A n c] w (av w base g k m ch F o no hh at_ N P f):=by
 have H:=T (Vr A n c f w ht hr I' G' M);unfold Qr at H;unfold av;have RG:G (∀W,r' w w W->Rdr W base g k m ch F no hh o d z at_ N P):=λW L=>hR.below L;have ln:Jd f=decide (QH f=0):=rfl;have uK:=T hb;clear hR hr ht;cases h:Jd f
 focus
  have y:QH f≠0:=of_decide_eq_false (ln▸h);rw [qJ FV];generalize QH f=er at*
  have e1:(er==(0:V))=false:=by simp [y]
  have e2:(er !=(0:V))=true:=by simp [y]
  clear h ln;generalize vR f=cY at*
  obtain⟨i2,hj,p',iL,z'⟩:=qA oq;replace hj:=T hj;replace p':=T p';replace iL:=T iL;replace z':=T z';have N6:d+1<=maxLen:=SJ;have M':(d+1)*8<=140737488355328:=M;clear y
 rotate_left
 focus have y:QH f=0:=xD (ln▸h);rw [qk rfl,jx];rw [y] at H;clear h ln y;generalize vR f=cY at*
 rotate_left
 all_goals
  go_enter func236,ntmps236
  go_wp2_with fail;refine H.mono ?_;rintro e l ⟨cL,ih,rfl,t⟩;have a:=T (RG.out l t.2);have r:=a.blk
 ·have c4:=r.cell 4;have X:=r.cell 5;have i:=T t;have SB:G (∀W,r' l l W->i' W ⟨g,4,none⟩=J (Z o d z)/\i' W ⟨g,5,none⟩=J (at_:la)):=λW L=>⟨(a.below L).blk.cell 4,(a.below L).blk.cell 5⟩;clear r t
  go_wp2_with fail;refine zv 11 (λW=>i' W ⟨g,4,none⟩=J (Z o d z)/\i' W ⟨g,5,none⟩=J (at_:la)) AL ⟨c4,X⟩ (λcB=> ?_)
  refine zq [0,1,2,3,4,5] (a':= ?_) ?_;refine zq [6,7,8] (a':= ?_) ?_;have s:=T (((qZ l l).drew).alloc (qx _) (Y #[at_] 3));refine IA 9 rfl AL SQ (λK b=> ?_);go_simp;skip
  refine b _ _ ((SB.out _ s)) (λcB=> ?_);clear b K;try simp only [Act.put,qQ,qY,qV]
  have u:=a.below s.out;have q:=u.ob;have ck:base<=(l.drew (Y #[at_] 3):O):=qv uK (qv i.out.2.size s.size);replace u:=T u;replace q:=T q;refine QY 10 rfl AL (λK b=> ?_)
  (refine jm _ SQ _ _ _ SQ base 3 i2 () 1 8 jj hj p' iL z' rfl M o d z _ SQ q ((l:O)+1) _ 1 1 _ SQ (zU l.drew _ _) (IB rfl) N6 M' ck ?_;intro E R B iv x D';have v:F' B g 309 _:=g_ u.blk q FV x)
  refine b _ _ (⟨v.cell 4,v.cell 5⟩) (λcB=> ?_);clear b K;try simp only [Act.put,qQ,qY,qV]
  have N9:=v.frozen 4;refine j4 11 rfl AL FV SQ (λK b=> ?_);go_simp;refine b _ _ ?_;clear b K;try simp only [Act.put,qQ,qY,qV]
  refine j4 12 rfl AL FV SQ (λK b=> ?_);go_simp;refine b _ _ ?_;clear b K;try simp only [Act.put,qQ,qY,qV]
  refine j4 13 rfl AL FV SQ (λK b=> ?_);go_simp;refine b _ _ ?_;clear b K;try simp only [Act.put,qQ,qY,qV]
  refine zV AL ?_ _;have m':r' base w B:=zG ((i.out.2.mono uK).trans (s.mono (qv uK i.out.2.size))) x q ck;have Q:Vc w B g o E:=(Vc.below (i.out.2.trans (s.mono i.out.2.size))).grown x D';have u':xp B base 5 1 (Z F no hh) no (N.map B8):=uR u.oo q FV x;have cK:xp B w 5 1 (Z cL cY ih) cY (cY.map B8):=uR (qG i.out.1 s) q FV x;have D:=v.zh 4 (Z E (d+1) R);have C:=T D;have qj:=T v;have d':=T a.ge;replace m':=T m';replace Q:=T Q;replace u':=T u';replace cK:=T cK;replace iv:=T iv;have OX:=D.cell 5;have J':=D.frozen 5;clear cB c4 X SB u q x D' s ck v N9 D
  go_wp2_with fail
  go_ret2;refine⟨cL,ih,E,d+1,R,rfl, ?_,⟨?_,d'.out, ?_, ?_⟩,M, ?_, ?_⟩
  ·exact Xr (Xr cK qj FV _) C FV _
  ·exact C.zh 5 _
  ·exact Xr (Xr u' qj FV _) C FV _
  ·have h5:=Xr (j:=5) (Xr (j:=4) iv qj FV (Z E (d+1) R)) C FV (e' ((at_:V)+1))
   rw [qg];exact h5
  ·exact(m'.setCell (p:=⟨g,4,none⟩) d' _).setCell (p:=⟨g,5,none⟩) d' _
  ·exact(Q.zh _ _).zh _ _
 ·have X:=r.cell 5;have J':=r.frozen 5;have i:=T t;clear r t
  go_wp2_with fail
  go_ret2;refine⟨cL,ih,o,d,z,rfl, ?_,⟨?_,a.ge,Xr a.oo a.blk FV _,Xr a.ob a.blk FV _⟩,M, ?_, ?_⟩
  ·exact Xr i.out.1 a.blk FV _
  ·exact a.blk.zh 5 _
  ·exact(i.out.2.mono uK).setCell (p:=⟨g,5,none⟩) a.ge _
  ·exact(Vc.below i.out.2).zh _ _
theorem QM {a:Func} {t u v x:Tmp} (h:a.results= #[.tmp t, .tmp u, .tmp v, .tmp x]) (tmps:Array la) (P:Program) (w:I):
  (results a tmps).run P w= .ok (BA #[tmps.getD t undef,tmps.getD u undef,tmps.getD v undef,tmps.getD x undef]) w:=by
 simp [results,h]
def fV (w:I) (r:V×S O×qn×O) (e:Ending) (w':I):Prop:=
 ∃c d a b,e=t' (BA #[Z c (U r.2.1) d,Z a (U r.2.2.1) b,(r.2.2.2:V),e' r.1])/\xp w' w 43 1 (Z c (U r.2.1) d) (U r.2.1) (r.2.1.map V64)/\
  w'.ownsRow w 5 1 (Z a (U r.2.2.1) b) (U r.2.2.1) (r.2.2.1.map B8)/\r' w w w'
theorem CN (t:q') (n N c B:O) (b:qn) (w:I) (h:E' w B 1 t N (b.map B8)) (ck:B<=(w:O)) (hN:N<=100000000) (cB:n<=20000):
  xG 196 #[n,Z t N c] w (fV w (ZG n b)):=by
 have KN:=T (Qk t N c B b w h ck M);obtain⟨R,a⟩:=zn (ZG n b);rw [<-a];unfold ZG at a;rw [qJ M,zc] at a;dsimp only at a;replace a:=T a;have I': ¬(n:V)<0:=M;have D': ¬(20000:V)<(n:V):=M;have N6:decide ((n:V)<0)=false:=qc I';have M':decide ((20000:V)<(n:V))=false:=qc D';clear h ck;go_in;go_wp2_with fail;refine KN.mono ?_;rintro e m ⟨d,A,cap,rfl,D,cK,iL,v⟩;have ih:=D.fresh (j1 (Y #[mJ d] 293));have i:r' w w (m (Y #[mJ d] 293)):=v.alloc v.size _;have j:F' (m (Y #[mJ d] 293)) m 293 #[mJ d]:=F'.new _ _ _;have d':d<(m:O):=D.blk.lt;have p:=T (CS _ d A N cap n b ⟨0,0⟩ ih cB);have z:=T (λW c h=>GN W d A N cap n b c h cB);unfold Ww at p;unfold Me at z;generalize hT:Q4 b n 0 ⟨0,0⟩ []=qj at*;obtain⟨ts,K⟩:=qj;dsimp only at a p;have s:=λW h=>T (z W K h);generalize hV:xx b n (n+1) K []=cY at*;obtain⟨ls,f⟩:=cY;dsimp only at a s;clear hT hV iL v D;have y:=T d';have P:=T cK;replace i:=T i;replace j:=T j;clear ih d' cK;go_wp2_with fail;refine p.mono ?_;rintro e w3 ⟨iv,ct,rfl,C,L,x⟩;have q:=T (x.blk j (by rw [qy];have:=y.out;omega));have r:=T (i.trans (x.below (λk g=>by rw [qy.1 g];exact P) i.size));have hh:=T (qi C i.size);have z':G ((m:O)<(w3:O)):=q.lt;have cL:=T ((s _ L).out);have Q:G (∀k∈K' iv,k≠d):=λk g e=>by have:=(zj C k g).1;have:=j.lt;have:=y.out;omega
 have q3:=q.cell 0;simp only [qR,qt] at q3;clear s C L x;go_wp2_with fail;refine cL.mono ?_;rintro e H ⟨Al,cl,rfl,uK,F,o⟩;have G':=T (o.blk q (by rw [qy];have:=y.out;omega));have X:=T (r.trans (o.below (λk g=>by rw [qy.1 g];exact P) r.size));have u':=T (qi uK r.size);have p':=T (o.own hh (λk g m'=>Q.out k g (qy.1 m')));have u:=T (jg H d A N cap b f F);have KA:=T (JJ H d A N cap b f F);have q4:=G'.cell 0;simp only [qR,qt] at q4;clear uK F o q3;by_cases l:f.err=0
 focus
  have ln:=T (a.out.trans (qJ (by simpa using l)));rw [l] at u;clear l;go_wp2_with fail;refine Ω u ?_;go_wp2_with fail;refine KA.mono ?_
 rotate_left
 focus
  have ln:=T (a.out.trans (qk (by simpa using l)));have J':(f.err==0)=false:=by simpa using l
  generalize f.err=E at*;go_wp2_with fail;refine u.mono ?_
 rotate_left
 all_goals
  rintro e w' ⟨rfl,rfl⟩;go_wp2_with fail;refine qW (QM rfl _ _ _) rfl ?_;unfold fV;rw [ln.out]
 ·exact⟨iv,ct,Al,cl,rfl,p',u',X⟩
 ·exact⟨none,0,none,0,rfl,qP _ _ _ _,qP _ _ _ _,X⟩
theorem nI (b:qn) (h:U b=4):(Yb b 4 ⟨0,0⟩).1=vk b:=by
 unfold Yb;rw [qJ M];show vk (if(0:V)≠0\/Xv b 4 ⟨0,0⟩≠0 then [] else(b.drop 0).take 4)=_;have:Xv b 4 ⟨0,0⟩=0:=by
  unfold Xv;rw [qJ M,qJ (by rw [Zy,h];omega)]
 rw [qJ (by rw [this];simp),Zy,qH M]
def iD (W:I) (B:O) (r:V×qn×qn) (e:Ending) (a:I):Prop:=
 ∃c c1 b c2,e=t' (BA #[Z c (U r.2.1) c1,Z b (U r.2.2) c2,e' r.1])/\E' a B 1 c (U r.2.1) (r.2.1.map B8)/\U r.2.1<=c1/\c1<=maxLen/\xp a W 5 1 (Z b (U r.2.2) c2) (U r.2.2) (r.2.2.map B8)/\r' W W a
theorem Oo (b:qn) (m k s:O) (d:U b=m+4) (a:vk (b.drop m)=k) (c:s+k=m):pg b=(QH ((b.drop s).take k),b.take s,vR ((b.drop s).take k)):=by
 unfold pg;rw [qJ M,show U b-4=m by omega,a,qJ M,show m-k=s by omega]
theorem C8 (A:Option Addr) (n c B:O) (b:S AB) (W:I) (ht:Pl W) (h:E' W B 1 A n (b.map B8)) (F:B<=(W:O)) (hc:n<=c) (hm:c<=maxLen) (hn:n<=1000000000):
  xG 158 #[Z A n c] W (iD W B (pg b)):=by
 have r:=h.len;obtain⟨R,d⟩: ∃R,R=pg b:=⟨_,rfl⟩;rw [<-d];by_cases h4:n<4
 ·have w:G (R=(1,[],[])):=by rw [Hid,d];unfold pg;rw [qk M]
  have y:(n:V)-4<0:=M;clear ht d r h;go_enter func158,ntmps158
  go_wp2_with fail
  go_ret3;rw [w.out];exact⟨none,0,none,0,rfl,E'.none_,qx _,FV,qP _ _ _ _,qZ _ _⟩
 obtain⟨m,j⟩: ∃m,n=m+4:=⟨n-4,M⟩;obtain⟨uK,hi,M',z,N6⟩:=qA QB;have hcut:=jI (P:=prog) 30 5 uK 1 qu hi z A n c m .i64 M;rw [show n-m=4 by omega] at hcut
 have L:=T (λ(s k:O) (h:s+k=m)=>Vo (P:=prog) 30 5 uK 1 qu hi z A n c s m .i64 .i64 M M);have X:=T (λ(s:O) (h:s<=c)=>Qm (P:=prog) 30 5 uK 1 qu hi z A n c s .i64 h);have ih:U (b.drop m)=4:=by rw [qI];omega
 have ln:=T (Qk (xo A c m 1) 4 (c-m) B (b.drop m) W (by have:=h.VC (k:=m) M hc;rwa [show n-m=4 by omega] at this) F M)
 have p:=T (λa g o q (h:Lr a g o 4 q (b.drop m) ⟨0,0⟩)=>VW a g o 4 q (b.drop m) ⟨0,0⟩ 4 h M M);rw [show((4:O):V)=4 from rfl] at p
 unfold jS at p;have C:=nI (b.drop m) ih;have qj:=Yy (b.drop m);rw [ih] at qj;have z':vk (b.drop m)<4294967296:=qj;generalize iL:Yb (b.drop m) 4 ⟨0,0⟩=fx at*
 replace iL:=T iL;obtain⟨k,cu⟩:=fx;dsimp only at C;rw [<-C] at z';have HK:G (vk (b.drop m)=k):=C.symm;have Z':(n:V)-4=(m:V):=M;have S':(0:V)<=(m:V):=M;have X': ¬(m:V)<0:=M;have OX:(m:V)<=(n:V):=M;have Q':(m:V)<=(c:V):=M;have U':wrap64 (k:V)=(k:V):=Kr _ M;have H:=T h;have cL:=T ht;replace j:=T j;replace ih:=T ih;replace r:=T r;replace d:=T d;clear h ht hi M' z N6 C qj h4;generalize d':xo A c m 1=A1 at*
 replace d':=T d';by_cases G':m<k
 focus
  have w:G (R=(1,[],[])):=by
   rw [Hid,d.out];unfold pg;have e:=r.out;have e2:=j.out;rw [qJ M,show U b-4=m by omega,HK.out,qk G']
  have I':(m:V)<(k:V):=M;clear L X d cL
 rotate_left
 focus
  obtain⟨s,y⟩: ∃s,s+k=m:=⟨m-k,M⟩
  have w:G (R=(QH ((b.drop s).take k),b.take s,vR ((b.drop s).take k))):=by
   rw [Hid,d.out];exact Oo b m k s (by have e:=r.out;have e2:=j.out;omega) HK y
  have m':s<=n:=by have:=j.out;omega
  have N9:=L.out s k y;rw [show m-s=k by omega] at N9
  have O':=X.out s M;have hsk:(m:V)-(k:V)=(s:V):=M;have I': ¬(m:V)<(k:V):=M;have K:=T (λa (Q:r' (W:O) W a)=>Vr (xo A c s 1) k (c-s) ((b.drop s).take k) a (cL.below Q cL.pos) ((((H.below (Q.mono F)).VC m' hc).takeN (by have:=j.out;omega)).more (qv F Q.size)) (by have:=j.out;omega) M M)
  unfold Qr at K;have N:G (U (b.take s)=s):=by rw [Hid,qh,r.out];omega
  have J':G (∀a,r' (W:O) W a->E' a B 1 A s ((b.take s).map B8)):=λa h=>(H.below (h.mono F)).takeN m';have N':(0:V)<=(s:V):=M;have P':(s:V)<=(m:V):=M;have Y':(s:V)<=(c:V):=M;generalize vR ((b.drop s).take k)=cY at*
  generalize QH ((b.drop s).take k)=E at*
  generalize cB:xo A c s 1=A2 at*
  replace cB:=T cB;replace y:=T y;clear L X d
 rotate_left
 all_goals
  go_enter func158,ntmps158
  go_wp2_with fail;refine ln.mono ?_;rintro e iv ⟨g,o,q,rfl,v,l,-,t⟩;have x:=T (p.out iv g o q v);replace l:=T l;have f:=T t;clear ln p v t
  go_wp2_with fail;refine x.mono ?_;rintro e D ⟨rfl,-,u⟩;have i:G (r' (W:O) W D):=f.trans (u.below (λk cK=>by rw [qy.1 cK];exact l) f.size)
 ·clear x u f
  go_wp2_with fail
  go_ret3;rw [w.out];exact⟨none,0,none,0,rfl,E'.none_,qx _,FV,qP _ _ _ _,i.out⟩
 ·have p':=T (K.out D i);clear x u f K
  go_wp2_with fail;refine p'.mono ?_;rintro e ck ⟨A3,c3,rfl,hh⟩;have u':G (r' (W:O) W ck):=i.trans (hh.2.mono i.size);have D':=T (qi hh.1 i.size);clear p' hh i
  go_wp2_with fail
  go_ret3;rw [w.out];exact⟨A,c,A3,c3,by rw [N.out];rfl,by rw [N.out];exact J' ck u',by rw [N.out];omega,hm,D'.out,u'.out⟩
theorem eT {z:AB}: ∀{x:AB},rv z=some x->(65<=z.toNat/\z.toNat<=90/\x.toNat=z.toNat+32)\/(((97<=z.toNat/\z.toNat<=122)\/(48<=z.toNat/\z.toNat<=57))/\x=z):=by
 intro x h;unfold rv at h;split at h
 ·rename_i h1;injection h with h;subst h;refine .inl ⟨h1.1,h1.2, ?_⟩;rw [zS,jk M]
 ·split at h
  ·rename_i h1 h2;injection h with h;exact .inr ⟨h2,h.symm⟩
  ·cases h
theorem tU (z:AB) (w:I):
  xG 183 #[gR (z.toNat:V)] w λe w'=>e=t' (BA #[gR (((rv z).getD 0).toNat:V), .bool (rv z).isSome])/\w=w':=by
 have k:=z.toNat_lt;cases a:rv z with
 |some x=>
  have h:=eT a;rw [Zv,Xq];clear a;rcases h with⟨h1,h2,h3⟩|⟨h1|h1,rfl⟩
  ·rw [h3];generalize z.toNat=y at*;have l:IntKind.u8.wrap ((y:V)+32)=((y+32:O):V):=by rw [va];omega
   have b:(65:V)<=(y:V):=M;have f:(y:V)<=90:=M;go_enter Jp,Zw;go_wp2;go_ret2;exact⟨yl,rfl⟩
  ·generalize x.toNat=y at*;have b:(65:V)<=(y:V):=M;have f: ¬(y:V)<=90:=M;have c:(97:V)<=(y:V):=M;have j:(y:V)<=122:=M;go_enter Jp,Zw;go_wp2;go_ret2;exact⟨yl,rfl⟩
  ·generalize x.toNat=y at*;have b: ¬(65:V)<=(y:V):=M;have c: ¬(97:V)<=(y:V):=M;have d:(48:V)<=(y:V):=M;have g:(y:V)<=57:=M;go_enter Jp,Zw;go_wp2;go_ret2;exact⟨yl,rfl⟩
 |none=>
  have h: ¬(65<=z.toNat/\z.toNat<=90)/\ ¬(97<=z.toNat/\z.toNat<=122)/\ ¬(48<=z.toNat/\z.toNat<=57):=by
   unfold rv at a;split at a
   ·cases a
   ·split at a
    ·cases a
    ·rename_i h1 h2;exact⟨h1,λh=>h2 (.inl h),λh=>h2 (.inr h)⟩
  rw [Option.getD_none,Xz];have i:((0:AB).toNat:V)=0:=rfl;rw [i];clear a;generalize z.toNat=y at*;have h4:y<48\/(57<y/\y<65)\/(90<y/\y<97)\/122<y:=M;rcases h4 with h4|h4|h4|h4
  ·have b: ¬(65:V)<=(y:V):=M;have c: ¬(97:V)<=(y:V):=M;have d: ¬(48:V)<=(y:V):=M;go_enter Jp,Zw;go_wp2;go_ret2;exact⟨yl,rfl⟩
  ·have b: ¬(65:V)<=(y:V):=M;have c: ¬(97:V)<=(y:V):=M;have d:(48:V)<=(y:V):=M;have g: ¬(y:V)<=57:=M;go_enter Jp,Zw;go_wp2;go_ret2;exact⟨yl,rfl⟩
  ·have b:(65:V)<=(y:V):=M;have f: ¬(y:V)<=90:=M;have c: ¬(97:V)<=(y:V):=M;have d:(48:V)<=(y:V):=M;have g: ¬(y:V)<=57:=M;go_enter Jp,Zw;go_wp2;go_ret2;exact⟨yl,rfl⟩
  ·have b:(65:V)<=(y:V):=M;have f: ¬(y:V)<=90:=M;have c:(97:V)<=(y:V):=M;have j: ¬(y:V)<=122:=M;have d:(48:V)<=(y:V):=M;have g: ¬(y:V)<=57:=M;go_enter Jp,Zw;go_wp2;go_ret2;exact⟨yl,rfl⟩
end
section
open Go.Maps Go.ChangeShapes
variable {P:S (qn×O)}{t:qn}
def jl:O->S JH->S (qn×O)
 |_,[]=>[]
 |i,r::l=>(G1 r).map (λt=>(t,i))++jl (i+1) l
def yd (t:qn) (P:S (qn×O)):S Nat:=(P.filter λp=>decide (p.1=t)).map (·.2)
def uj (l:S O):S Int:=l.map λn:O=>(n:V)
theorem gI: ∀(i:O) (l:S JH) (r:JH),jl i (l++[r])=jl i l++(G1 r).map λt=>(t,i+U l)
 |i,[],r=>by simp [jl]
 |i,a::l,r=>by
  show(G1 a).map (λt=>(t,i))++jl (i+1) (l++[r])=_
  rw [gI (i+1) l r,qf,<-jY,show i+1+U l=i+(U l+1) by omega]
  rfl
theorem Pe: ∀(i:O) (l:S JH) (t:qn),t∈(jl i l).map (·.1)↔t∈(l.map G1).flatten
 |i,[],t=>by simp [jl]
 |i,r::l,t=>by
  have a:=Pe (i+1) l t;unfold jl;rw [qg,zt,a,jy,xI,zt];simp
theorem uE (t:qn) (P Q:S (qn×O)):yd t (P++Q)=yd t P++yd t Q:=by simp [yd]
theorem WI (t:qn) (i:O): ∀qj:S qn,qj.Nodup->yd t (qj.map λs=>(s,i))=if t∈qj then [i] else []
 |[],_=>rfl
 |s::qj,h=>by
  rw [List.nodup_cons] at h;have a:=WI t i qj h.2;unfold yd at a⊢;rw [jy,QQ];by_cases b:s=t
  ·subst b
   rw [qJ h.1] at a;simp only [decide_true,if_true,jy,a];rw [qk (qo ..)]
  ·simp only [b,decide_false,Bool.false_eq_true,if_false,a,qL]
   by_cases ht:t∈qj
   ·rw [qk ht,qk (.inr ht)]
   ·rw [qJ ht,qJ (λh=>h.elim (λe=>b e.symm) ht)]
theorem E6 (r:JH):(G1 r).Nodup:=by
 have h:SS (G1 r):=Cv _;exact h.imp λ{a b} c e=>by subst e;rw [kZ] at c;cases c
theorem Br (t:qn): ∀(i:O) (l:S JH),yd t (jl i l)=pF t i l
 |i,[]=>rfl
 |i,r::l=>by
  unfold jl;rw [uE,WI t i _ (E6 r),Br t (i+1) l];rw [show pF t i (r::l)=if t∈G1 r then i::pF t (i+1) l else pF t (i+1) l from rfl]
  by_cases h:t∈G1 r
  ·rw [qk h,qk h];rfl
  ·rw [qJ h,qJ h];rfl
theorem E7 (s:qn): ∀l,U (Pn s l)<=U l+1
 |[]=>qx _
 |x::t=>by
  unfold Pn;split
  ·exact jv _
  ·split
   ·exact qx _
   ·rw [qf,qf];have:=E7 s t;omega
theorem PE: ∀(l o:S qn),U (l.foldl (λo s=>Pn s o) o)<=U o+U l
 |[],o=>qx _
 |s::l,o=>by
  rw [List.foldl_cons];have h1:=PE l (Pn s o);have h2:=E7 s o;rw [qf];omega
theorem ko: ∀(s row:qn) (a:S qn),U (rj s row a)<=U a+U s+1
 |[],row,a=>by
  unfold rj bC;split
  ·show U a<=_;omega
  ·rw [qK];simp
 |c::t,row,a=>by
  unfold rj;cases rv c with
  |some x=>
   have:=ko t (row++[x]) a;rw [qf];dsimp only;omega
  |none=>
   have:=ko t [] (bC row a);have h2:U (bC row a)<=U a+1:=by
    unfold bC;split
    ·exact jv _
    ·rw [qK];simp
   rw [qf];dsimp only;omega
theorem BR (r:JH) (h1:U r.src<=4000) (h2:U r.txt<=4000):U (G1 r)<=10000:=by
 have h:=PE (St r.txt++(St r.src).map (64:: ·)) [];have a:=ko r.txt [] [];have b:=ko r.src [] [];rw [qK,zH] at h;unfold G1 R1;unfold St at h⊢;simp only [zF] at h a b;omega
theorem Ku: ∀(i:O) (l:S JH),(∀r∈l,U r.src<=4000/\U r.txt<=4000)->U (jl i l)<=10000*U l
 |i,[],_=>qx _
 |i,r::l,h=>by
  unfold jl;rw [qK,zH,qf];have h1:=Ku (i+1) l (λx a=>h x (qM _ a));have h2:=h r (qo ..);have h3:=BR r h2.1 h2.2;omega
theorem MW {a b:S V} (h:lits (H:=Unit) .i64 a=lits .i64 b):a=b:=by
 unfold lits at h;have:=List.map_inj_right (f:=λn:V=>(DataW.lit (Lit.int .i64 n):DataW Unit)) (λx y e=>by injection e with e;injection e)|>.1 h;exact this
structure GD (D:DataW Unit) (P:S (qn×O)):Prop where
 im:Maps.IsMap D
 has_: ∀t:qn,Maps.has D (.string t)=decide (t∈P.map (·.1))
 at_: ∀t:qn,t∈P.map (·.1)->D.atKey (.string t) .nil= .slice (lits .i64 (uj (yd t P))) []
theorem GD.nil:GD (.map []) []:=⟨Maps.isMap_empty,λt=>rfl,λt h=>by cases h⟩
theorem MS (h:t∉P.map (·.1)):yd t P=[]:=by
 unfold yd;rw [List.filter_eq_nil_iff.2 (λp a=>by
  rw [jo];rintro rfl;exact h (jB.2 ⟨p,a,rfl⟩))]
 rfl
theorem GD.look {D:DataW Unit} (h:GD D P) {w:I} {base:O} {e:TypeId} {v:la} {zs:S V} (a:D.atKey (.string t) .nil=rowDatum .i64 v zs) (c:w.ownsInts base e .i64 v zs):zs=uj (yd t P):=by
 by_cases b:t∈P.map (·.1)
 ·rw [h.at_ t b] at a;rcases c.datum (H:=Unit) with⟨h1,-⟩|h1
  ·rw [h1] at a;cases a
  ·rw [h1] at a;injection a with a;exact(MW a).symm
 ·rw [MS b];have d:=h.has_ t;rw [qc b] at d;rw [Maps.atKey_of_not_has d] at a;rcases c.datum (H:=Unit) with⟨-,h1⟩|h1
  ·exact h1
  ·rw [h1] at a;cases a
theorem GD.snoc {D:DataW Unit} (h:GD D P) (t:qn) (i:O):GD (D.put (.string t) (.slice (lits .i64 (uj (yd t P)++[(i:V)])) [])) (P++[(t,i)]):=by
 refine⟨h.im.put _ _,λs=> ?_,λs b=> ?_⟩
 ·by_cases a:s=t
  ·subst a;rw [Maps.has_put_same h.im (show WideAt.IsKeyLit (.string s) from trivial)];exact(qw s8).symm
  ·rw [Maps.has_put_other (by simpa using a),h.has_ s];simp [a]
 ·by_cases a:s=t
  ·subst a;rw [Maps.atKey_put_same h.im (show WideAt.IsKeyLit (.string s) from trivial),uE];simp [yd,uj]
  ·rw [Maps.atKey_put_other (by simpa using a),h.at_ s (by
    rw [qg,zt] at b;exact b.resolve_right (by simp [a]))]
   rw [uE];have:yd s [(t,i)]=[]:=by simp [yd];exact λe=>a e.symm
   rw [this,jx]
theorem GD.keys {D:DataW Unit} (h:GD D P) (ht:Maps.Tidy D) (k: ∀c,D= .map c-> ∀p∈c,∃x,p.1= .string x) {ss:S qn} (i:ss.Perm (strKeys D)) (m:S qn) (n: ∀t,t∈m↔t∈P.map (·.1)):(ss.mergeSort λx y=>decide (x<=y))=R1 m:=by
 obtain⟨c,rfl,r⟩:=ht;have g:=k c rfl;have l:(strKeys (.map c)).Nodup:=by
  show(c.map λp=>strOf p.1).Nodup;refine List.pairwise_map.2 (r.imp_of_mem λ{p q} d u s e=>s ?_);obtain⟨a,f⟩:=g p d;obtain⟨b,j⟩:=g q u;rw [f,j] at e⊢;exact zo _ e
 refine mK ss m (i.nodup_iff.2 l) λx=> ?_;rw [i.mem_iff,n x,<-jo (p:=x∈P.map (·.1)),<-h.has_ x,Maps.has_eq,ZQ];show x∈c.map (λp=>strOf p.1)↔_;rw [jB];constructor
 ·rintro⟨p,d,rfl⟩;obtain⟨a,f⟩:=g p d;refine⟨p,d, ?_⟩;rw [f];simp [strOf,Lit.sameKey]
 ·rintro⟨p,d,o⟩;exact⟨p,d,by rw [WideAt.sameKey_eq o];rfl⟩
end
end Go.Proofs.YtfnlfpcfkbdcmaaGreatDoor
