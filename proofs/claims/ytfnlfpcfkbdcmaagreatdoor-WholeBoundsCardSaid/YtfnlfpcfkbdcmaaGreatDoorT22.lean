import Derived.Test.YtfnlfpcfkbdcmaaGreatDoorT18
import Derived.Test.YtfnlfpcfkbdcmaaGreatDoorT19
set_option linter.unusedSimpArgs false
set_option linter.unusedVariables false
set_option maxRecDepth 100000
set_option maxHeartbeats 0
open Go.Proofs.Tryz
namespace Go.Proofs.YtfnlfpcfkbdcmaaGreatDoor
open Go.RowKit
variable {A:q'}{B N cap gc k n:O}{W W' W0 w:I}{b:qn}{c c':Cu}{cs:Array la}{l:S JH}
theorem pM {a:Func} {p:Tmp} {b:TypeId} (h:a.results= #[.cell p b]) (tmps:Array la) (w:I) (g:O) (c:Array la)
  (e:tmps.getD p undef=mJ g) (d:(loadVar b g).run prog w= .ok (.agg c) w):
  (results a tmps).run prog w= .ok (.agg c) w:=by
 have f:tmps[p]?.getD undef=mJ g:=by simpa using e
 simp [results,h,f,asAddr,d]
theorem Yx:(prog.info? 45).map (·.size)=some 4:=AL
def _c (t b:V) (a S2:la):Array Value:= #[.int .u64 t,gR b,a,S2]
def CC (W:I) (a:O) (A:q') (N cap:O) (b:qn) (r:JH×Cu) (e:Ending) (c:I):Prop:=
 e=t' (.agg (_c (r.1.time:V) (r.1.level:V) (Lj r.1.src) (Lj r.1.txt)))/\Lr c a A N cap b r.2/\qE [a] W c
structure RB (W0 W:I) (gc:O) (A:q') (N cap:O) (b:qn) (c:Cu) (cs:Array la):Prop where
 rd:F' W W0 293 #[mJ gc]
 rc:F' W ((W0:O)+1) 45 cs
 cur:Lr W gc A N cap b c
 jZ:qE [gc] W0 W
 lt:gc<(W0:O)
 fp: ∀k∈K' A,k<(W0:O)
theorem RB.step (h:RB W0 W gc A N cap b c cs) (d:Lr W' gc A N cap b c') (a:qE [gc] W W'):RB W0 W' gc A N cap b c' cs:=
 ⟨a.blk h.rd (by rw [qy];have:=h.lt;omega),a.blk h.rc (by rw [qy];have:=h.lt;omega),d,h.jZ.then a,h.lt,h.fp⟩
theorem RB.zh (h:RB W0 W gc A N cap b c cs) (i:O) (u:la):RB W0 (W.setCell ⟨(W0:O)+1,i,none⟩ u) gc A N cap b c (cs.setIfInBounds i u):=by
 have a:qE [(W0:O)+1] W (W.setCell ⟨(W0:O)+1,i,none⟩ u):=(qE.refl _ W).zh (p:=⟨(W0:O)+1,i,none⟩) (qy.2 rfl) u;exact⟨a.blk h.rd (by rw [qy];omega),h.rc.zh i u,h.cur.jZ a (by rw [qy];have:=h.lt;omega) (λk d=>by rw [qy];have:=h.fp k d;omega),h.jZ.trans a (λk d=> .inr (by rw [qy.1 d];omega)),h.lt,h.fp⟩
theorem RB.VH (h:RB W0 W gc A N cap b c cs):i' W (W0:O)=J (mJ gc):=h.rd.cell 0
theorem RB.cells (h:RB W0 W gc A N cap b c cs) (i:O):i' W ⟨(W0:O)+1,i,none⟩=cs[i]? :=h.rc.cell i
theorem RB.frz (h:RB W0 W gc A N cap b c cs) (i:O):W.frozen? ⟨(W0:O)+1,i,none⟩=false:=h.rc.frozen i
theorem RB.row (h:RB W0 W gc A N cap b c cs) (a:Array la):RB W0 (W.setRow ((W0:O)+1) a) gc A N cap b c a:=by
 have d:=Js W ((W0:O)+1) a;exact⟨d.blk h.rd (by rw [qy];omega),h.rc.row a,h.cur.jZ d (by rw [qy];have:=h.lt;omega) (λk e=>by rw [qy];have:=h.fp k e;omega),h.jZ.trans d (λk e=> .inr (by rw [qy.1 e];omega)),h.lt,h.fp⟩
theorem PC (t c:V) (a b:la) (u:la) (v:V):(_c t c a b).setIfInBounds 0 (.int .u64 v)=_c v c a b/\(_c t c a b).setIfInBounds 1 (gR v)=_c t v a b/\(_c t c a b).setIfInBounds 2 u=_c t c u b/\(_c t c a b).setIfInBounds 3 u=_c t c a u:=by
 simp [_c]
theorem Wa (t c:V) (a b:qn):(_c t c (Lj a) (Lj b)).all (·.oneCell')=true:=by simp [_c,Lj,Value.oneCell']
theorem Gs (F:Bool) (W:I) (f:O) (A:Option Addr) (N cap:O) (b:S AB) (c:Cu) (h:Lr W f A N cap b c):
  xG 192 #[.agg #[mJ f], .bool F] W (CC W f A N cap b (CL b F c)):=by
 have HC:=T h;obtain⟨R,B⟩: ∃R,R=CL b F c:=⟨_,rfl⟩;rw [<-B];have d':G (f<(W:O)):=h.blk.lt;have iL:G (∀k∈K' A,k<(W:O)):=λk hk=>(zj h.own k hk).2;have s:G (RB W ((W (Y #[mJ f] 293)) (Y #[.int .u64 0,gR 0, .string ⟨#[]⟩, .string ⟨#[]⟩] 45)) f A N cap b c (_c 0 0 (Lj []) (Lj []))):=by
  have iv:r' (W:O) W (W (Y #[mJ f] 293)):=(qZ _ _).alloc (qx _) _;have cY:r' (W:O) W ((W (Y #[mJ f] 293)) (Y #[.int .u64 0,gR 0, .string ⟨#[]⟩, .string ⟨#[]⟩] 45)):=iv.alloc iv.size _;refine⟨(F'.new W _ _).alloc _, ?_,h.fresh cY,qE.jq cY,d'.out,iL.out⟩;have h:=F'.new (W (Y #[mJ f] 293)) 45 (_c 0 0 (Lj []) (Lj []));simpa [_c,Lj] using h
 have n:G (∀W c (h:Lr W f A N cap b c),xG 227 #[mJ f,e' 4000] W (jS W f A N cap b (Lj (xa b 4000 c).1) (xa b 4000 c).2)):=λW c h=>pB W f A N cap b c 4000 h M;unfold jS at n;cases F
 focus
  have ih:G (R=(⟨0,(0:AB).toNat,(xa b 4000 c).1,(xa b 4000 (xa b 4000 c).2).1⟩,(xa b 4000 (xa b 4000 c).2).2)):=B;clear B h;go_enter func192,ntmps192
  go_wp2_with fail;generalize ((W (Y #[mJ f] 293)) (Y #[.int .u64 0,gR 0, .string ⟨#[]⟩, .string ⟨#[]⟩] 45))=ck at*
  have p:=T (n.out ck c s.cur);have q:=T (λW h=>n.out W (xa b 4000 c).2 h);generalize (xa b 4000 (xa b 4000 c).2).1=d at*
  generalize (xa b 4000 (xa b 4000 c).2).2=c9 at*
  generalize (xa b 4000 c).1=a at*
  generalize (xa b 4000 c).2=c8 at*
  clear n;unfold Lj at p q;refine p.mono ?_;rintro e H ⟨rfl,z,u⟩;have l:=s.step z u;have uK:=l.frz 2;have y:i' H ⟨(W:O)+1,2,none⟩=J (Lj []):=l.cells 2;have g:=T (l.zh 2 (Lj a));rw [(PC _ _ _ _ (Lj a) 0).2.2.1] at g;unfold Lj at y;rw [show Lj a= .string ⟨a.toArray⟩ from rfl] at g
  have q8:=g.out.VH;have x:=T (q.out _ g.cur);clear p q z u l s
 rotate_left
 focus
  have ih:G (R=(⟨(X7 b c).1,(j_ b (X7 b c).2).1.toNat,(xa b 4000 (j_ b (X7 b c).2).2).1,(xa b 4000 (xa b 4000 (j_ b (X7 b c).2).2).2).1⟩,(xa b 4000 (xa b 4000 (j_ b (X7 b c).2).2).2).2)):=B;have L:=T (Fc _ f A N cap b c s.cur);have E:=T (λW h=>QS W f A N cap b (X7 b c).2 h);unfold jS at L E;have X:B8 (j_ b (X7 b c).2).1=gR ((j_ b (X7 b c).2).1.toNat:V):=rfl;rw [X] at E;generalize (j_ b (X7 b c).2).1.toNat=m at*
  generalize (j_ b (X7 b c).2).2=c2 at*
  generalize (X7 b c).1=o at*
  generalize (X7 b c).2=c1 at*
  clear B h X;have q0:=s.out.VH;go_enter func192,ntmps192
  go_wp2_with fail;generalize ((W (Y #[mJ f] 293)) (Y #[.int .u64 0,gR 0, .string ⟨#[]⟩, .string ⟨#[]⟩] 45))=ck at*
  refine L.mono ?_;rintro e w3 ⟨rfl,Q,cK⟩;have ln:=s.step Q cK;have f0:=ln.frz 0;have g0:w3.cell? ↑((W:O)+1)=J (.int .u64 0):=ln.cells 0;have C:=T (ln.zh 0 (.int .u64 (o:V)));rw [(PC _ _ _ _ (Lj []) _).1] at C;have q1:=C.out.VH;have P:=T (E.out _ C.cur);clear L E Q cK ln s q0
  go_wp2_with fail;refine P.mono ?_;rintro e cL ⟨rfl,cB,qj⟩;have D:=C.step cB qj;have f1:=D.frz 1;have g1:i' cL ⟨(W:O)+1,1,none⟩=J (gR 0):=D.cells 1;have v:=T (D.zh 1 (gR (m:V)));rw [(PC _ _ _ _ (Lj []) _).2.1] at v;clear P cB qj D C q1 f0 g0;have q2:=v.out.VH
  go_wp2_with fail;generalize cL.setCell ⟨(W:O)+1,1,none⟩ (gR (m:O))=w6 at*
  clear f1 g1 q2;have p:=T (n.out w6 c2 v.cur);have q:=T (λW h=>n.out W (xa b 4000 c2).2 h);generalize (xa b 4000 (xa b 4000 c2).2).1=d at*
  generalize (xa b 4000 (xa b 4000 c2).2).2=c9 at*
  generalize (xa b 4000 c2).1=a at*
  generalize (xa b 4000 c2).2=c8 at*
  clear n;unfold Lj at p q;refine p.mono ?_;rintro e H ⟨rfl,z,u⟩;have l:=v.step z u;have uK:=l.frz 2;have y:i' H ⟨(W:O)+1,2,none⟩=J (Lj []):=l.cells 2;have g:=T (l.zh 2 (Lj a));rw [(PC _ _ _ _ (Lj a) 0).2.2.1] at g;unfold Lj at y;rw [show Lj a= .string ⟨a.toArray⟩ from rfl] at g
  have q8:=g.out.VH;have x:=T (q.out _ g.cur);clear p q z u l v
 rotate_left
 all_goals
  go_wp2_with fail;refine x.mono ?_;rintro e K ⟨rfl,w,t⟩;have j:=g.step w t;have f3:=j.frz 3;have hh:i' K ⟨(W:O)+1,3,none⟩=J (Lj []):=j.cells 3;have i:=T (j.zh 3 (Lj d));rw [(PC _ _ _ _ (Lj d) 0).2.2.2] at i;unfold Lj at hh;rw [show Lj d= .string ⟨d.toArray⟩ from rfl] at i
  clear x w t j g q8 uK y
 ·have r:=T (i.row (_c (0:V) (0:V) (.string ⟨a.toArray⟩) (.string ⟨d.toArray⟩)))
  go_wp2_with (first
   |(refine ja rfl 45 _ rfl ((W:O)+1) rfl 45 (_c (0:V) (0:V) (.string ⟨a.toArray⟩) (.string ⟨d.toArray⟩)) (0,0) _ i.rc ZI rfl Yx ?_)
   |(refine qC rfl 45 _ _ rfl ((W:O)+1) (_c (0:V) (0:V) (.string ⟨a.toArray⟩) (.string ⟨d.toArray⟩)) rfl rfl 45 (_c (0:V) (0:V) (.string ⟨a.toArray⟩) (.string ⟨d.toArray⟩)) i.rc Yx rfl (Wa _ _ a d) ?_))
  refine qW (pM rfl _ _ ((W:O)+1) (_c (0:V) (0:V) (.string ⟨a.toArray⟩) (.string ⟨d.toArray⟩)) rfl (qN _ ((W:O)+1) 45 _ (_c (0:V) (0:V) (.string ⟨a.toArray⟩) (.string ⟨d.toArray⟩)) (0,0) _ r.rc ZI rfl Yx)) rfl ?_;unfold CC;rw [ih.out];exact⟨rfl,r.cur,r.jZ⟩
 ·have r:=T (i.row (_c (o:V) (m:V) (.string ⟨a.toArray⟩) (.string ⟨d.toArray⟩)))
  go_wp2_with (first
   |(refine ja rfl 45 _ rfl ((W:O)+1) rfl 45 (_c (o:V) (m:V) (.string ⟨a.toArray⟩) (.string ⟨d.toArray⟩)) (0,0) _ i.rc ZI rfl Yx ?_)
   |(refine qC rfl 45 _ _ rfl ((W:O)+1) (_c (o:V) (m:V) (.string ⟨a.toArray⟩) (.string ⟨d.toArray⟩)) rfl rfl 45 (_c (o:V) (m:V) (.string ⟨a.toArray⟩) (.string ⟨d.toArray⟩)) i.rc Yx rfl (Wa _ _ a d) ?_))
  refine qW (pM rfl _ _ ((W:O)+1) (_c (o:V) (m:V) (.string ⟨a.toArray⟩) (.string ⟨d.toArray⟩)) rfl (qN _ ((W:O)+1) 45 _ (_c (o:V) (m:V) (.string ⟨a.toArray⟩) (.string ⟨d.toArray⟩)) (0,0) _ r.rc ZI rfl Yx)) rfl ?_;unfold CC;rw [ih.out];exact⟨rfl,r.cur,r.jZ⟩
theorem uC (c:Cu) (n:O) (e:V):c.at_<=(yO c n e).at_/\((yO c n e).err=0->c.err=0/\e=0/\(yO c n e).at_=c.at_+n):=by
 unfold yO;split
 ·rename_i h;exact⟨qx _,λh2=>absurd h2 h⟩
 ·rename_i h;split
  ·rename_i h2;exact⟨qx _,λh3=>absurd h3 h2⟩
  ·rename_i h2;exact⟨Jk _ _,λ_=>⟨by simpa using h,by simpa using h2,rfl⟩⟩
theorem BU (b:qn) (a:V) (c:Cu):c.at_<=(xa b a c).2.at_/\((xa b a c).2.err=0->c.err=0/\c.at_+1<=(xa b a c).2.at_):=by
 have h:=uC c ((kE (b.drop c.at_) a).2.1+(kE (b.drop c.at_) a).1) (Xy (b.drop c.at_) a);refine⟨h.1,λh2=> ?_⟩;obtain⟨h3,h4,h5⟩:=h.2 h2;refine⟨h3, ?_⟩;show c.at_+1<=(yO c _ _).at_;rw [h5];have h6:(kE (b.drop c.at_) a).2.2=0:=by
  unfold Xy at h4;split at h4
  ·rename_i h7;exact absurd h4 h7
  ·rename_i h7;simpa using h7
 have h8:1<=(kE (b.drop c.at_) a).2.1:=by
  unfold kE at h6⊢;split at h6
  ·rename_i h7;exact absurd h6 h7
  ·rename_i h7;rw [qJ h7];split at h6
   ·cases h6
   ·rename_i d;rw [qJ d];have:=(PZ (b.drop c.at_) 0 0).2.1 (by have:=h7;unfold F5 at this;simpa using this);show 1<=(F5 _).2.1;unfold F5;omega
 omega
theorem MK (b:qn) (a:Bool) (c:Cu) (h:(CL b a c).2.err=0):c.at_+1<=(CL b a c).2.at_:=by
 unfold CL at h⊢;dsimp only at h⊢;generalize d:(if a=true then j_ b (if a=true then X7 b c else(0,c)).2 else(0,(if a=true then X7 b c else(0,c)).2))=y at*;have e:c.at_<=y.2.at_:=by
  rw [<-d];cases a with
  |true=>
   simp only [if_true];exact qv (uC c _ _).1 (uC (X7 b c).2 _ _).1
  |false=>simp
 have h1:=BU b 4000 y.2;have h2:=BU b 4000 (xa b 4000 y.2).2;have:=(h2.2 h).2;have:=h1.1;omega
theorem Mk (w:I) (t:JH) (a:TypeId):E' (w (Y (VF t).toArray a)) ((w:O)+1) 4 w 1 (VF t):=by
 refine⟨rfl,λ_=>⟨_,rfl,ze _,λj u b=> ?_⟩⟩;have e:((w:O):Addr).add j=⟨w,j,none⟩:=by unfold Addr.add;split<;>simp_all
 rw [e,(F'.new w a (VF t).toArray).cell j];simpa using b
def gZ (w:I) (r:V×S JH) (e:Ending) (w':I):Prop:=
 ∃b a,e=t' (BA #[Z b r.2 a,e' r.1])/\xp w' w 45 4 (Z b r.2 a) r.2 (ji r.2)/\r' w w w'
theorem UE (v:Bool) (Ab:Option Addr) (n c B:O) (b:S AB) (w:I) (h:E' w B 1 Ab n (b.map B8)) (hB:B<=(w:O)) (hn:n<=100000000):
  xG 156 #[.bool v,Z Ab n c] w (gZ w (sc v b)):=by
 have KN:=T (Qk Ab n c B b w h hB M);have N6:G (U b=n):=h.len;obtain⟨R,hR⟩: ∃R,R=sc v b:=⟨_,rfl⟩;rw [<-hR];have O':G (ri b v n ⟨0,0⟩ []=R):=by rw [Hid,hR,<-N6.out];rfl
 obtain⟨i0,hi,m',I',G'⟩:=qA PH;replace hi:=T hi;replace m':=T m';replace I':=T I';replace G':=T G';clear h hB hR;go_enter func156,ntmps156
 go_wp2_with fail;refine KN.mono ?_;rintro e q ⟨o,A,cap,rfl,ck,Q',hAl,cL⟩;have HC2:=T (ck.fresh ((qZ _ _).alloc (qx _) (Y #[mJ o] 293)));have HB2:G (r' w w (q (Y #[mJ o] 293))):=cL.alloc cL.size _;have HK2:G (F' (q (Y #[mJ o] 293)) q 293 #[mJ o]):=F'.new _ _ _;have D:G ((w:O)<=o/\o<(q:O)/\(w:O)<=(q:O)):=⟨Q',ck.blk.lt,cL.size⟩;have HAg:G (∀k∈K' A,k<(q:O)):=λk j=>(zj ck.own k j).2;have ln:G ((q:O)<(q (Y #[mJ o] 293):O)):=by rw [Hid];simp
 clear KN ck Q' hAl cL
 go_wp2_with fail;generalize q (Y #[mJ o] 293)=s at*
 generalize (q:O)=gr at*
 go_loopw [7] (λv7 wr=> ∃(f m K:O) (p:Cu) (y:S JH) (x:Option Addr),v7=Z x m K/\m<=100000000/\G (m=U y)/\G (m<=p.at_)/\G (n-p.at_<=f)/\G (ri b v f p y=R)/\G (Lr wr o A n cap b p)/\G (F' wr gr 293 #[mJ o])/\G (xp wr s 45 4 (Z x m K) m (ji y))/\G (r' w w wr)/\G ((s:O)<=(wr:O))) (λv7 _=>100000001-Y8 v7)
 case atStart=>exact⟨n,0,0,⟨0,0⟩,[],none,rfl,M,rfl,qx _,by rw [Hid];show n-0<=n;omega,O',HC2,HK2,qP _ _ _ _,HB2,qx _⟩
 case round=>
  clear HC2 HB2 HK2 O';obtain⟨f,m,K,p,y,x,rfl,hm8,HM,HMA,HF,d',Q,cY,cK,qj,U'⟩:=hrel;have F:=T (pb wr o A n cap b p Q);have q0:=cY.cell 0;simp only [qR,qt] at q0;have OX:=Q.le;by_cases M':p.at_<n
  ·obtain⟨f,rfl⟩: ∃f',f=f'+1:=⟨f-1,by have:=HF.out;omega⟩
   have u:=d'.out;unfold ri at u;rw [qJ (by rw [N6.out];omega)] at u
   have H:=MK b v p;have P:=T (λW h=>Gs v W o A n cap b p h);generalize CL b v p=RC at*
   obtain⟨⟨g,i,a,d⟩,t⟩:=RC;unfold CC _c Lj at P;dsimp only at u H P;obtain⟨L,hL⟩: ∃L,L=n-p.at_:=⟨_,rfl⟩;rw [<-hL] at F;have hL0:(0:V)<(L:V):=M;replace hL:=T hL;replace u:=T u;replace H:=T H;replace M':=T M';replace OX:=T OX;clear d'
   go_wp2_with fail;refine F.mono ?_;rintro e w3 ⟨rfl,r⟩;have HC3:=T (Q.dr r);have N9:=T (cY.below (r.below _) cY.lt);have J':=T (qG cK (r.below _));have uK:=T (qj.trans (r.below _));have HSZ3:G ((s:O)<=(w3:O)):=qv U' (r.below 0).size;have q3:=N9.cell 0;simp only [qR,qt] at q3;have KR3:=T (P.out w3 HC3);clear F P Q cY cK qj U' r q0
   go_wp2_with fail;refine KR3.mono ?_;rintro e l ⟨rfl,Z',ih⟩;have cB:=T (Z'.fresh ((qZ _ _).alloc (qx _) (Y #[.int .u64 (g:V),gR (i:V), .string ⟨a.toArray⟩, .string ⟨d.toArray⟩] 45)));have z':G (F' (l (Y #[.int .u64 (g:V),gR (i:V), .string ⟨a.toArray⟩, .string ⟨d.toArray⟩] 45)) gr 293 #[mJ o]):=(ih.blk N9 (by rw [qy];have:=D.out;omega)).alloc _
   have D':=T ((ih.own J' (λk j p'=>by have:=(zj J' k j).1;rw [qy.1 p'] at this;have:=D.out;have:=ln.out;omega)).alloc (Y #[.int .u64 (g:V),gR (i:V), .string ⟨a.toArray⟩, .string ⟨d.toArray⟩] 45))
   have u':r' w w l:=uK.trans (ih.below (λk j=>by rw [qy.1 j];exact D.out.1) uK.size)
   have N:G (r' w w (l (Y #[.int .u64 (g:V),gR (i:V), .string ⟨a.toArray⟩, .string ⟨d.toArray⟩] 45))):=u'.alloc u'.size _;have P':G ((s:O)<=(l (Y #[.int .u64 (g:V),gR (i:V), .string ⟨a.toArray⟩, .string ⟨d.toArray⟩] 45)).heap.size):=qv (qv HSZ3 ih.size) s8;have KE:=T (jg (l (Y #[.int .u64 (g:V),gR (i:V), .string ⟨a.toArray⟩, .string ⟨d.toArray⟩] 45)) o A n cap b t cB);have q5:=z'.cell 0;simp only [qR,qt] at q5;clear KR3 Z' ih HC3 N9 J' uK HSZ3 u' q3;by_cases C:t.err=0
   ·have X:=u.out
    rw [qJ (by simpa using C)] at X
    replace X:=T X;have hadv2:=H.out C;have hle9:=cB.le;have hF2:G (n-t.at_<=f):=by have:=HF.out;rw [Hid];omega
    have Y':G (m+1<=t.at_):=by have:=HMA.out;rw [Hid];omega
    have hm9:m+1<=100000000:=by have:=Y'.out;omega
    rw [C] at KE;have hm1:m+1<=maxLen:=SJ;have hm2:(m+1)*48<=140737488355328:=M;have hsz5:(l (Y #[.int .u64 (g:V),gR (i:V), .string ⟨a.toArray⟩, .string ⟨d.toArray⟩] 45)).heap.size=(l:O)+1:=s8;have N':=qv P' (show(l (Y #[.int .u64 (g:V),gR (i:V), .string ⟨a.toArray⟩, .string ⟨d.toArray⟩] 45)).heap.size<=((l (Y #[.int .u64 (g:V),gR (i:V), .string ⟨a.toArray⟩, .string ⟨d.toArray⟩] 45)) (Y #[.int .u64 (g:V),gR (i:V), .string ⟨a.toArray⟩, .string ⟨d.toArray⟩] 45)).heap.size by simp)
    clear u H hadv2 hle9 HF HMA C
    go_wp2_with fail;refine KE.mono ?_;rintro e w' ⟨rfl,rfl⟩
    go_wp2_with (first
     |(refine ja rfl 45 _ rfl l rfl 45 #[.int .u64 (g:V),gR (i:V), .string ⟨a.toArray⟩, .string ⟨d.toArray⟩] (0,0) _ (F'.new l _ _) ZI rfl Yx ?_)
     |(at_builtin;refine qF _ rfl (.tmp 26) (.tmp 28) 24 rfl s 45 i0 (.agg #[.int .u64 0,gR 0, .string "".toUTF8, .string "".toUTF8]) 4 48 QL hi m' I' G' rfl M x m K _ rfl (D'.alloc _) ((l (Y #[.int .u64 (g:V),gR (i:V), .string ⟨a.toArray⟩, .string ⟨d.toArray⟩] 45)).heap.size+1) (some ⟨(l (Y #[.int .u64 (g:V),gR (i:V), .string ⟨a.toArray⟩, .string ⟨d.toArray⟩] 45)).heap.size,0,none⟩) 1 1 (VF ⟨g,i,a,d⟩) (by first|rfl|(rw [hsz5];rfl)) (Mk _ ⟨g,i,a,d⟩ _) (tS _) hm1 hm2 N' ?_;intro A11 c11 iv iL X' _hs11;have z:qE (K' x) ((l (Y #[.int .u64 (g:V),gR (i:V), .string ⟨a.toArray⟩, .string ⟨d.toArray⟩] 45)) (Y #[.int .u64 (g:V),gR (i:V), .string ⟨a.toArray⟩, .string ⟨d.toArray⟩] 45)) iv:=(qE.refl _ _).grown X' (λk j=> .inl j);replace iL:=T iL;replace z:=T z;clear X' _hs11))
    have hh: ∀k∈K' x,(s:O)<=k:=λk j=>(zj D' k j).1;have HC11:=T ((cB.fresh ((qZ _ _).alloc (qx _) (Y #[.int .u64 (g:V),gR (i:V), .string ⟨a.toArray⟩, .string ⟨d.toArray⟩] 45))).jZ z (λj=>by have:=hh _ j;have:=D.out;have:=ln.out;omega) (λk j p'=>by have:=hh _ p';have:=HAg.out k j;have:=ln.out;omega))
    have HK11:=T (z.blk (z'.alloc (Y #[.int .u64 (g:V),gR (i:V), .string ⟨a.toArray⟩, .string ⟨d.toArray⟩] 45)) (λj=>by have:=hh _ j;have:=ln.out;omega))
    have HB11:G (r' w w iv):=(N.alloc N.size (Y #[.int .u64 (g:V),gR (i:V), .string ⟨a.toArray⟩, .string ⟨d.toArray⟩] 45)).trans (z.below (λk j=>by have:=hh k j;have:=D.out;have:=ln.out;omega) (qv N.size s8))
    have HO11:G (xp iv s 45 4 (Z A11 (m+1) c11) (m+1) (ji (y++[⟨g,i,a,d⟩]))):=by rw [Hid,pR,mO];exact iL.out
    have HSZ11:G ((s:O)<=(iv:O)):=qv N' z.size;have hM:=HM.out;clear hh cB z' N D' z iL N' P' KE;go_roundw
    case rel=>exact⟨f,m+1,c11,t,y++[⟨g,i,a,d⟩],A11,by first|rfl|simp,hm9,by rw [Hid,qK,zJ,hM],Y',hF2,X,HC11,HK11,HO11,HB11,HSZ11⟩
    case measure=>simp [Y8];omega
   ·have HR:G (R=(t.err,[])):=by rw [Hid,<-u.out,qk C]
    have hzn:(t.err==0)=false:=by simpa using C
    have hzn':(t.err !=0)=true:=by simpa using C
    generalize t.err=E at*
    clear u H
    go_wp2_with fail;refine KE.mono ?_;rintro e w' ⟨rfl,rfl⟩
    go_wp2_with fail
    go_ret2;unfold gZ;rw [HR.out];exact⟨none,0,rfl,qP _ _ _ _,N.out⟩
  ·obtain S':n-p.at_=0:=M
   rw [S'] at F;have HR:G (R=(0,y)):=by
    rw [Hid,<-d'.out];cases f with
    |zero=>rfl
    |succ f=>unfold ri;rw [qk (by rw [N6.out];omega)]
   clear S' d' M' OX
   go_wp2_with fail;refine F.mono ?_;rintro e w3 ⟨rfl,r⟩;have HOF:=T (qi (qG cK (r.below _)) (show (w:O)<=(s:O) by have:=D.out;have:=ln.out;omega))
   have uK:=T (qj.trans (r.below _));clear F r cK qj
   go_wp2_with fail
   go_ret2;unfold gZ;rw [HR.out];have hmo:=HM.out;subst hmo;exact⟨x,K,rfl,HOF.out,uK.out⟩
theorem F8 {W:I} {g cap:O} {t:TypeId} {b c:la} {A:q'} {s:Bw} (h:Wr W g t [b,c] A cap s) (u:la):
  Wr (W.setCell ⟨g,2,none⟩ u) g t [u,c] A cap s/\Wr (W.setCell ⟨g,3,none⟩ u) g t [b,u] A cap s:=by
 refine⟨⟨?_,((qE.refl [g] W).zh (p:=⟨g,2,none⟩) (qy.2 rfl) u).own h.own (λk a=>by simpa using h.fp k a),h.ok,h.ne⟩,
  ⟨?_,((qE.refl [g] W).zh (p:=⟨g,3,none⟩) (qy.2 rfl) u).own h.own (λk a=>by simpa using h.fp k a),h.ok,h.ne⟩⟩
 ·have:=h.blk.zh 2 u;simpa using this
 ·have:=h.blk.zh 3 u;simpa using this
structure Sq (l:S (O×O×O)):Prop where
 ok: ∀t∈l,Bp t
 len:U l<=32768
 fewS:mr (pz l)
 fewF:mr (LW l)
 ckS:gk (P1 l)=0
 ckF:gk (de l)=0
theorem MJ (l:S (O×O×O)) (h:U l<=32768): ∀x∈pz l,x<=1000000:=by
 intro x a;unfold pz at a;obtain⟨s,-,rfl⟩:=jB.1 a;have:=jN (λt=>(pd t).1==s) l;split<;>omega
theorem MX (l:S (O×O×O)) (h:U l<=32768): ∀x∈LW l,x<=1000000:=by
 intro x a;unfold LW at a;obtain⟨s,-,rfl⟩:=jB.1 a;have:=jN (λt=>decide (256<(pd t).1)&&((pd t).2.2.1==s)) l;omega
theorem EB (A:q') (c B:O) (l:S (O×O×O)) (w:I) (h:E' w B 3 A l (QN l)) (C:B<=(w:O)) (x:Sq l):
  xG 86 #[Z A l c] w λe w'=> ∃r c',e=t' (BA #[Z r (U (Sf l)) c',()])/\yG w w' 5 r (U (Sf l)) c' ((Sf l).map B8):=by
 have KC:=T (Eh A c B l w h C (by have:=x.len;omega) x.ok);have H:=T h;have HB0:=T C;have m:=T x;have hlen: ¬(32768:V)<(U l:V):=by have:=x.len;omega
 have U':=x.len;obtain⟨bs,t⟩:=zn (Sf l);rw [<-t];replace t:=T t;clear h C x;go_in;go_wp2_with fail;refine KC.mono ?_;rintro e d ⟨A1,c1,A2,c2,rfl,ho1,cK,y⟩;have HS1:=T (E'.zY ho1);have S':=T cK;have N':G (Wr (d (Y #[z8,(),mJ none,mJ none] 190)) d 190 [mJ none,mJ none] none 0 ⟨[],0⟩):=
  ⟨F'.new d _ _,qP _ _ _ _,rfl,FV⟩
 have R:G (r' w w (d (Y #[z8,(),mJ none,mJ none] 190))):=y.alloc y.size _;have HS2:G (E' (d (Y #[z8,(),mJ none,mJ none] 190)) d 1 A1 265 ((pz l).map Qb)):=HS1.below (j1 _);have HO3:G (xp (d (Y #[z8,(),mJ none,mJ none] 190)) w 92 1 (Z A2 12 c2) 12 ((LW l).map Qb)):=S'.alloc _;have o:G ((w:O)<=(d:O)/\(d:O)<(d (Y #[z8,(),mJ none,mJ none] 190):O)):=⟨y.size,s8⟩;have p':=T (λk a=>(zj cK k a).2);clear ho1 cK y;go_wp2_with fail;generalize d (Y #[z8,(),mJ none,mJ none] 190)=w2,(d:O)=g at*;have KA:=T (DJ w2 g _ _ none 0 ⟨[],0⟩ A1 265 c1 g (pz l) N' HS2 (zr o.out.2) M m.fewS (MJ l U') (by show(0:O)<=_;omega) m.ckS);have HCS:=T m.ckS;have HCF:=T m.ckF;replace t:G (bs=(HU (P1 l) (l.foldl (DT (P1 l) (de l)) (C4 (C4 ⟨[],0⟩ (P1 l)) (de l))) 256).b):=t;have KB:=T (λW rest A cap s (hw:Wr W g 190 rest A cap s) B h C hs=>DJ W g _ rest A cap s A2 12 c2 B (LW l) hw h C M m.fewF (MX l U') hs m.ckF);rw [show X6 (pz l) 15=P1 l from rfl] at KA;rw [show X6 (LW l) 15=de l from rfl] at KB;have hlS:=(ZT HCS).1;have hlF:=(ZT HCF).1;generalize P1 l=ls,de l=lf at*;have d':G ((C4 ⟨[],0⟩ ls).n<=3000):=by have:=DZ ⟨[],0⟩ ls;rw [Hid];exact qv this (by show 0+_<=_;omega)
 have hs5:G ((C4 (C4 ⟨[],0⟩ ls) lf).n<=6000):=by have:=DZ (C4 ⟨[],0⟩ ls) lf;have:=d'.out;rw [Hid];omega
 refine KA.mono ?_;rintro e j ⟨i,Q,K,A3,cap3,rfl,hcs,hlo,Q',uK,F,z'⟩;have fc2:i' j ⟨g,2,none⟩=J (mJ none):=by rw [uK.blk.cell 2];simp
 have ff2:=uK.blk.frozen 2;have cY:=z' g (qo ..);have cB:qE [g] j (j.setCell ⟨g,2,none⟩ (mJ i)):=(qE.refl [g] j).zh (p:=⟨g,2,none⟩) (qy.2 rfl) _;have Z':=T (F8 uK (mJ i)).1;have HC4:=T (hcs.jZ cB (λk a=>by rw [qy.1 a];exact .inl cY));have HO4:=T (cB.own (F.jZ.own HO3 (λk a iv=>by have:=p' k a;simp [K'] at iv;omega)) (λk a iv=>by have:=p' k a;rw [qy.1 iv] at this;omega));have ln:G (r' w w (j.setCell ⟨g,2,none⟩ (mJ i))):=(R.trans (F.jZ.below (λk a=>by simp [K'] at a;rw [a];exact o.out.1) R.size)).setCell (p:=⟨g,2,none⟩) o.out.1 _;have J':G (∀k∈g::K' A3,(w:O)<=k):=λk a=>by
  rcases qL.1 a with h|h
  ·rw [h];exact o.out.1
  ·rcases F.fp k h with h|h
   ·simp [K'] at h
   ·have:=R.size;omega
 have m':G (K<=(j.setCell ⟨g,2,none⟩ (mJ i):O)):=by rw [Hid];simpa using Q'
 have iL:=T z';clear hcs hlo Q' uK F z' cB;go_wp2_with fail;generalize j.setCell ⟨g,2,none⟩ (mJ i)=w4 at*;clear fc2 ff2;have OX:=T (KB w4 _ A3 cap3 _ Z' w4 (E'.zY HO4) (qx _) (by have:=d'.out;omega));refine OX.mono ?_;rintro e f ⟨gf,ih,M',ck,cap5,rfl,X',hlo5,hhi5,hh,v,qj⟩;have fc3:i' f ⟨g,3,none⟩=J (mJ none):=by rw [hh.blk.cell 3];simp
 have ff3:=hh.blk.frozen 3;have hg5:=qj g (qo ..);have X:qE [g] f (f.setCell ⟨g,3,none⟩ (mJ gf)):=(qE.refl [g] f).zh (p:=⟨g,3,none⟩) (qy.2 rfl) _;have u':(f.setCell ⟨g,3,none⟩ (mJ gf):O)=(f:O):=s8;have O':G (TW (f.setCell ⟨g,3,none⟩ (mJ gf)) g ck cap5 (C4 (C4 ⟨[],0⟩ ls) lf) i Q K ls gf ih M' lf):=
  ⟨(F8 hh (mJ gf)).2,
   (HC4.jZ v.jZ (λk a=> .inl (iL k a))).jZ X (λk a=>by rw [qy.1 a];exact .inl cY),
   X'.jZ X (λk a=>by rw [qy.1 a];exact .inl hg5),
   λk a=>⟨by
    rcases qL.1 a with h|h
    ·rw [h];exact .inl cY
    ·rcases v.fp k h with h|h
     ·exact .inl (iL k (qM _ h))
     ·exact .inr (qv m' h), .inl (qj k a)⟩,
   by rw [u'];exact qv m' v.jZ.size,by rw [u'];exact hhi5⟩
 have HB6:G (r' w w (f.setCell ⟨g,3,none⟩ (mJ gf))):=(ln.trans (v.jZ.below J' ln.size)).setCell (p:=⟨g,3,none⟩) o.out.1 _;have HL6:G (∀k∈g::K' ck,(w:O)<=k):=λk a=>by
  rcases qL.1 a with h|h
  ·rw [h];exact o.out.1
  ·rcases v.fp k h with h|h
   ·exact J' k (qM _ h)
   ·have:=ln.size;omega
 clear X' hlo5 hhi5 hh v qj X u' iL;generalize C4 (C4 ⟨[],0⟩ ls) lf=s0 at*;go_wp2_with fail;generalize f.setCell ⟨g,3,none⟩ (mJ gf)=w6 at*;clear fc3 ff3;go_loopw [38] (λN6 wr=> ∃(k G':O) (r:q') (s:Bw),N6=(k:la)/\k<=U l/\G (TW wr g r G' s i Q K ls gf ih M' lf)/\G (s=(l.take k).foldl (DT ls lf) s0)/\G (s.n<=6000+256*k)/\G (r' w w wr)/\G (∀k∈g::K' r,(w:O)<=k)) (λN6 _=>U l-(intOf N6).toNat)
 ·exact⟨0,cap5,ck,s0,rfl,qp _,O',rfl,by simpa using hs5,HB6,HL6⟩
 ·obtain⟨k,G',r,s,rfl,a,z,HS,HN,q,D⟩:=hrel;have hn:=HN.out;by_cases D':k<U l
  ·have hlt':(k:V)<(U l:V):=M;obtain⟨ad,rfl,_,y0,y1,y2⟩:=F7 (H.below (q.mono HB0)) k D';have htk:l.take (k+1)=l.take k++[l[k]]:=by rw [qs,qX D'];rfl
   have hS2:G (DT ls lf s l[k]=(l.take (k+1)).foldl (DT ls lf) s0):=by rw [Hid,htk,List.foldl_append,<-HS.out];rfl
   have hN2:G ((DT ls lf s l[k]).n<=6000+256*(k+1)):=by have:=nK ls lf s l[k];rw [Hid];omega
   have N9:=T (z.fresh (j1 (Y #[gR ((l[k].1:O):V),((l[k].2.1:O):V),((l[k].2.2:O):V)] 193)));have KT:=T (Eb _ g r G' s i Q K ls gf ih M' lf l[k] N9 (m.ok _ (zx D')) M);have u:=T (q.alloc q.size (Y #[gR ((l[k].1:O):V),((l[k].2.1:O):V),((l[k].2.2:O):V)] 193));generalize DT ls lf s l[k]=s2,l[k].1=t0,l[k].2.1=t1,l[k].2.2=t2 at*;unfold XX PT at KT;clear htk HS HN hn;go_wp2_with fail;refine zC KT ?_;rintro w8 ⟨A8,cap8,hw8,cL⟩;have HT8:=T (N9.step hw8 cL);have HB8:=T (u.trans (cL.jZ.below D u.size));have HL8:G (∀k∈g::K' A8,(w:O)<=k):=λk a=>by
    rcases qL.1 a with h|h
    ·rw [h];exact o.out.1
    ·rcases cL.fp k h with h|h
     ·exact D k (qM _ h)
     ·have:=u.size;omega
   clear q D z hw8 cL;go_wp2_with fail;refine xk ?_;exact⟨k+1,cap8,A8,s2,xg,M,HT8,hS2,hN2,HB8,HL8⟩
  ·obtain rfl:k=U l:=M;rw [jP] at HS;have hbs2:G (bs=(HU ls s 256).b):=by rw [Hid,HS.out];exact t.out
   have hn8:(HU ls s 256).n<=9000000:=by have:=VM ls s 256;omega
   have N:=T (z.drew.lV 256 M);have c2:=z.out.XZ;unfold PT at c2 N;unfold XX at N;clear HS HN;generalize HU ls s 256=s9 at*;go_wp2_with fail;refine K7 8 c2 (λhHeld=> ?_);refine zq [0,1,2,3,4,5,6] (a':= ?_) ?_;refine vf 7 N ?_;rintro e w9 ⟨rfl,A9,cap9,P,P'⟩;refine⟨_,rfl,((by rw [P.blk.cell 2];simp)),λhHeld=> ?_⟩;refine zV AL ?_ _;have E:=T (FM w9 g _ _ A9 cap9 s9 P (by have:=P.ok;unfold Bw.ok at this;omega));have L:=T (q.drew.trans (P'.jZ.below D q.drew.size));rw [<-hbs2.out] at E;unfold jQ at E;clear P P' z q D c2 hHeld;go_wp2_with fail;refine E.mono ?_;rintro e w10 ⟨A10,Y',rfl,I'⟩;have HF:G (yG w w10 5 A10 bs Y' (bs.map B8)):=⟨qi I'.1 L.size,L.trans (I'.2.mono L.size)⟩;clear I';go_wp2;go_ret2;exact⟨A10,Y',rfl,HF⟩
theorem Ec (W:I) (b:TypeId) (a:S (q'×O×O×qn)) (h: ∀p∈a,E' W W 1 p.1 p.2.1 (p.2.2.2.map B8)):
  UX (W (Y (a.map λp=>Value.slice p.1 p.2.1 p.2.2.1).toArray b)) (W (Y (a.map λp=>Value.slice p.1 p.2.1 p.2.2.1).toArray b):O) W a (a.map λp=>p.2.2.2.map B8):=by
 refine⟨s8,λj c=> ?_⟩;have i:=zx c;refine⟨ (W:O),a[j].1,a[j].2.1,a[j].2.2.1,a[j].2.2.2.map B8,rfl, ?_, ?_, ?_,YR _⟩
 ·rw [qD,qX c];rfl
 ·have e:((W:O):Addr).add j=⟨W,j,none⟩:=by unfold Addr.add;split<;>simp_all
  rw [e,(F'.new W b _).cell j];simp [c]
 ·obtain⟨h1,h2⟩:=(h _ i).below (((qZ W W).alloc (qx _) _));exact⟨h1,λd=>by obtain⟨l,k,g,f⟩:=h2 d;exact⟨l,k,qB g s8,f⟩⟩
theorem fZ (W:I) (c:O) (a:S (q'×O×O×qn)) (h: ∀p∈a,E' W W 1 p.1 p.2.1 (p.2.2.2.map B8)) (j:U a<=1000) (ht:U ((a.map λp=>p.2.2.2).flatten)<=1000000000):
  xG 30 #[Z W a c] (W (Y (a.map λp=>Value.slice p.1 p.2.1 p.2.2.1).toArray 30)) (jQ 5 (W (Y (a.map λp=>Value.slice p.1 p.2.1 p.2.2.1).toArray 30)) (U ((a.map λp=>p.2.2.2).flatten)) (((a.map λp=>p.2.2.2).flatten).map B8)):=by
 have e:(a.map λp=>p.2.2.2.map B8).flatten=((a.map λp=>p.2.2.2).flatten).map B8:=by
  rw [List.map_flatten,vC];rfl
 have b:La (a.map λp=>p.2.2.2.map B8)=U ((a.map λp=>p.2.2.2).flatten):=by unfold La;rw [e,zH]
 have K:=uU W a c _ _ M (by rw [b];exact ht) (Ec W 30 a h);rw [b,e] at K;refine K.mono ?_;rintro k w' ⟨g,d,rfl,f,i⟩;exact⟨g,d,rfl,f,i⟩
theorem Xe (W:I) (c e h:q') (a b n3 c1 c2 i:O) (f d g:qn) (h1:E' W W 1 c a (f.map B8)) (h2:E' W W 1 e b (d.map B8)) (h3:E' W W 1 h n3 (g.map B8)) (ht:a+b+n3<=1000000000):
  xG 30 #[Z W 3 3] (W (Y #[Z c a c1,Z e b c2,Z h n3 i] 30)) (jQ 5 (W (Y #[Z c a c1,Z e b c2,Z h n3 i] 30)) (U (f++d++g)) ((f++d++g).map B8)):=by
 have m:=h1.len;have l:=h2.len;have k:=h3.len;have K:=fZ W 3 [(c,a,c1,f),(e,b,c2,d),(h,n3,i,g)] (by
  intro p j;simp only [qL,xj,Ze] at j;rcases j with rfl|rfl|rfl
  ·exact h1
  ·exact h2
  ·exact h3) s8 SZ
 simpa [jY] using K
theorem Yz (W:I) (c e:q') (b a c1 c2:O) (f d:qn) (h1:E' W W 1 c b (f.map B8)) (h2:E' W W 1 e a (d.map B8)) (ht:b+a<=1000000000):
  xG 30 #[Z W 2 2] (W (Y #[Z c b c1,Z e a c2] 30)) (jQ 5 (W (Y #[Z c b c1,Z e a c2] 30)) (U (f++d)) ((f++d).map B8)):=by
 have i:=h1.len;have h:=h2.len;have K:=fZ W 2 [(c,b,c1,f),(e,a,c2,d)] (by
  intro p g;simp only [qL,xj,Ze] at g;rcases g with rfl|rfl
  ·exact h1
  ·exact h2) s8 SZ
 simpa using K
def iY (w:I) (n m:O) (r:S la) (e:Ending) (w':I):Prop:= ∃b a,e=t' (BA #[Z b m a, .bool (decide (m<n))])/\yG w w' 5 b m a r
theorem EC (A:q') (n c B:O) (bs:qn) (w:I) (h:E' w B 1 A n (bs.map B8)) (q:B<=(w:O)) (y:n<=32768) (j:Sq (Bs bs)):
  xG 54 #[Z A n c] w (iY w n (U (Kh bs)) ((Kh bs).map B8)):=by
 have i:=T (MZ A n c B _ w h q M);have v:=T j;have r:G (Kh bs=Sf (Bs bs)):=rfl;rw [r.out];generalize Bs bs=l at*;clear h q j;go_in;go_wp2_with fail;refine i.mono ?_;rintro e k ⟨t,c1,rfl,f,m⟩;have o:=T (EB t c1 k l k (E'.zY f) (qx _) v);have a:=T m;clear f m;generalize Sf l=s at*;go_wp2_with fail;refine o.mono ?_;rintro e u ⟨b,c2,rfl,d⟩;have g:G (yG w u 5 b s c2 (s.map B8)):=⟨qi d.1 a.size,a.trans (d.2.mono a.size)⟩;clear d;by_cases p:U s<n
 ·have x:(U s:V)<(n:V):=M;go_wp2;go_ret2;refine⟨b,c2, ?_,g⟩;rw [qw p];rfl
 ·go_wp2;go_ret2;refine⟨b,c2, ?_,g⟩;rw [qc p];rfl
def Yj (r:JH):Prop:=r.time<18446744073709551616/\r.level<256/\U r.src<=100000000/\U r.txt<=100000000
theorem DX (s:qn):U (B1 s)<=U s+10:=by
 unfold B1;rw [qK];have:=(jn s).2;omega
theorem F9 (p':Bool) (r:JH) (w:I) (h:Yj r):
  xG 52 #[p', .agg #[.int .u64 (r.time:V),gR (r.level:V), .string ⟨r.src.toArray⟩, .string ⟨r.txt.toArray⟩]] w (jQ 5 w (U (ei p' r)) ((ei p' r).map B8)):=by
 obtain⟨i0,hi,z',D',G'⟩:=xt QB;obtain⟨S',hlv,hsl,htl⟩:=h;have R:=λW=>T (Yd r.src W M);have iv:=λW=>T (Yd r.txt W M);have KN:=λW=>T (vW _ W S');have Z':=DX r.src;have ht1:=DX r.txt;have Y':=(jn r.time).2;obtain⟨H,qj⟩:=zn (ei p' r);rw [<-qj];unfold ei at qj;unfold Lj at R iv;unfold jQ at R iv KN;have O':((UInt8.ofNat r.level).toNat:V)=(r.level:V):=by rw [zS];omega
 generalize (⟨r.src.toArray⟩:ByteArray)=hh,(⟨r.txt.toArray⟩:ByteArray)=S2,B1 r.src=u,B1 r.txt=ih,kD r.time=l,hy:UInt8.ofNat r.level=y at*;have X':G ([B8 y]=[gR (r.level:V)]):=by rw [Hid,<-O'];rfl
 generalize r.time=cL,r.level=m at*;have s:G (F' (w (Y #[.int .u64 (cL:V),gR (m:V), .string hh, .string S2] 45)) w 45 #[.int .u64 (cL:V),gR (m:V), .string hh, .string S2]):=F'.new _ _ _;have d':G (r' w w (w (Y #[.int .u64 (cL:V),gR (m:V), .string hh, .string S2] 45))):=j1 _;clear O';cases p'
 focus
  have I':G (H=[]++u++ih):=by rw [Hid,qj];rfl
  clear qj KN Y'
 rotate_left
 focus
  have I':G (H=l++[y]++u++ih):=by rw [Hid,qj];simp
  clear qj
 rotate_left
 all_goals
  go_in;go_wp2_with fail;generalize w (Y #[.int .u64 (cL:V),gR (m:V), .string hh, .string S2] 45)=c at*
 ·have cY:=T s.lt;have A:=s.cell 2;have k3:=s.cell 3;simp only [qR,yN,qt] at A k3;refine zv 10 (λW=>i' W ⟨w,2,none⟩=J (.string hh)/\i' W ⟨w,3,none⟩=J (.string S2)) AL ⟨A,k3⟩ (λd=> ?_);refine zq [0,1,2,4,5] (a':= ?_) ?_;refine IA 3 rfl AL SQ (λK a=> ?_);go_simp
  (go_at_call 84;((with_reducible refine((R _).out).mono ?_);rintro e g ⟨o,c1,rfl,b⟩);have n: ∀{i:O} {v:la},i' c ⟨w,i,none⟩=some v->i' g ⟨w,i,none⟩=some v:=λ{i v} k=>(b.2.cell (p:=⟨w,i,none⟩) cY.out).trans k)
  refine a _ _ (⟨n A,n k3⟩) (λd=>xb ?_);clear a K;refine IA 6 rfl AL SQ (λK a=> ?_);go_simp
  (go_at_call 84;((with_reducible refine((iv _).out).mono ?_);rintro e j ⟨A2,c2,rfl,f⟩);have q:=qB cY.out b.2.size;have x: ∀{i:O} {v:la},i' g ⟨w,i,none⟩=some v->i' j ⟨w,i,none⟩=some v:=λ{i v} k=>(f.2.cell (p:=⟨w,i,none⟩) q).trans k)
  refine a _ _ (⟨x (n A),x (n k3)⟩) (λd=>xb ?_);clear a K;have L:=d'.drew.trans (b.2.mono (show (w:O)<=(c.drew:O) from d'.size));have P:=T (L.trans (f.2.mono L.size));have cK:E' j j 1 none 0 (([]:qn).map B8):=E'.none_;have cB:=(b.reads.below f.2).more f.2.size;have F:=T (Xe j _ o A2 0 u ih 0 c1 c2 _ u ih cK cB f.reads M);rw [<-I'.out] at F;unfold jQ at F;have E:=T (P.alloc P.size (Y #[z8,Z o u c1,Z A2 ih c2] 30));refine IA 7 rfl AL SQ (λK a=> ?_);go_simp;skip;refine a _ _ (⟨(((qZ _ j).alloc (qx _) _).cell (p:=⟨w,2,none⟩) (qB q f.2.size)).trans (x (n A)),(((qZ _ j).alloc (qx _) _).cell (p:=⟨w,3,none⟩) (qB q f.2.size)).trans (x (n k3))⟩) (λd=>xb ?_);clear a K;refine vf 8 F ?_;rintro e w4 ⟨A4,c4,rfl,z⟩;refine⟨_,rfl,(⟨(z.2.cell (p:=⟨w,2,none⟩) (qB q (qv f.2.size s8))).trans d.1,(z.2.cell (p:=⟨w,3,none⟩) (qB q (qv f.2.size s8))).trans d.2⟩),λd=> ?_⟩;refine zq [9] (a':= ?_) ?_;refine zV AL ?_ _;have HF:G (yG w w4 5 A4 H c4 (H.map B8)):=⟨qi z.1 E.size,E.trans (z.2.mono E.size)⟩;clear L cK cB z b f n x q d R iv;go_wp2;go_ret;exact⟨A4,c4,rfl,HF⟩
 ·have B:=T s.lt;have ln:=s.cell 0;have D:=s.cell 1;simp only [qR,yN,qt] at ln D;have Q':U l+1<=maxLen:=SJ;have N9:(U l+1)*1<=140737488355328:=M;refine zv 8 (λW=>i' W (w:O)=J (.int .u64 (cL:V))/\i' W ⟨w,1,none⟩=J (gR (m:V))) AL ⟨ln,D⟩ (λd=> ?_);refine zq [0,1,3,4] (a':= ?_) ?_;refine dV 2 5 rfl rfl AL SQ SQ (λK a=> ?_) (λK a=> ?_);go_simp
  (go_at_call 31;((with_reducible refine((KN _).out).mono ?_);rintro e g ⟨o,c1,rfl,b⟩))
  have N:xp g c 5 1 (Z o l c1) l (l.map B8):=b.1;have C: ∀{i:O} {v:la},i' c ⟨w,i,none⟩=some v->i' g ⟨w,i,none⟩=some v:=λ{i v} k=>(b.2.cell (p:=⟨w,i,none⟩) B).trans k;refine a _ _ ⟨C ln,C D⟩ (λd=>xb ?_);clear a K;refine IA 5 rfl AL SQ (λK a=> ?_);go_simp;skip;refine a _ _ (⟨(((qZ _ g).alloc (qx _) _).cell (p:= (w:O)) (qB B b.2.size)).trans (C ln),(((qZ _ g).alloc (qx _) _).cell (p:=⟨w,1,none⟩) (qB B b.2.size)).trans (C D)⟩) (λd=>xb ?_);clear a K;refine QY 6 rfl AL (λK a=> ?_)
  (refine jm _ rfl (.tmp 9) (.tmp 12) 30 rfl c 5 i0 (gR 0) 1 1 qu hi z' D' G' rfl M o l c1 _ rfl (N.alloc _) ((g:O)+1) g 1 1 [gR (m:V)] rfl (zU g _ _) (IB rfl) Q' N9 (qv b.2.size s8) ?_;intro ck c5 t iL m' J';have uK:r' c c t:=zG ((Yt b.2).alloc (Yt b.2).size _) m' (N.alloc _) (qv b.2.size s8);have Q: ∀{i:O} {v:la},i' c ⟨w,i,none⟩=some v->i' t ⟨w,i,none⟩=some v:=λ{i v} k=>(uK.cell (p:=⟨w,i,none⟩) B).trans k)
  refine a _ _ (⟨Q ln,Q D⟩) (λd=>xb ?_);clear a K;refine zq [7] (a':= ?_) ?_;refine zV AL ?_ _;have N6:=T iL;have u':=T uK;clear iL uK Q m' J' N C b d;rotate_left;go_simp;have X:r' c c (c.drew (Y #[gR (m:V)] 5)):=((qZ _ c).drew).alloc (qx _) _;have j0: ∀{i:O} {v:la},i' c ⟨w,i,none⟩=some v->i' (c.drew (Y #[gR (m:V)] 5)) ⟨w,i,none⟩=some v:=λ{i v} k=>(X.cell (p:=⟨w,i,none⟩) B).trans k;refine a _ _ ⟨j0 ln,j0 D⟩ (λd=>xb ?_);clear a K;refine IA 2 rfl AL SQ (λK a=> ?_);go_simp
  (go_at_call 31;((with_reducible refine((KN _).out).mono ?_);rintro e g ⟨o,c1,rfl,b⟩);have N:=qi b.1 X.size;have N':E' g ((c:O)+1) 1 c 1 [gR (m:V)]:=(zU c.drew _ _).below (b.2.mono s8);have C: ∀{i:O} {v:la},i' (c.drew (Y #[gR (m:V)] 5)) ⟨w,i,none⟩=some v->i' g ⟨w,i,none⟩=some v:=λ{i v} k=>(b.2.cell (p:=⟨w,i,none⟩) (qB B.out X.size)).trans k)
  refine a _ _ (⟨C (j0 ln),C (j0 D)⟩) (λd=>xb ?_);clear a K;refine QY 6 rfl AL (λK a=> ?_)
  (refine jm _ rfl (.tmp 9) (.tmp 12) 30 rfl c 5 i0 (gR 0) 1 1 qu hi z' D' G' rfl M o l c1 _ rfl N ((c:O)+1) c 1 1 [gR (m:V)] rfl N' (IB rfl) Q' N9 (qv s8 b.2.size) ?_;intro ck c5 t iL m' J';have uK:=zG (X.trans (b.2.mono s8)) m' N (qv s8 b.2.size);have Q: ∀{i:O} {v:la},i' c ⟨w,i,none⟩=some v->i' t ⟨w,i,none⟩=some v:=λ{i v} k=>(uK.cell (p:=⟨w,i,none⟩) B).trans k)
  refine a _ _ (⟨Q ln,Q D⟩) (λd=>xb ?_);clear a K;refine zq [7] (a':= ?_) ?_;refine zV AL ?_ _;have N6:=T iL;have u':=T uK;clear iL uK Q m' J' N N' C j0 b d X;rotate_left;all_goals
   have OX:=T (s.below u' B.out);have P':=T (d'.trans (u'.mono d'.size));have U':G (E' t t 1 ck (U l+1) ((l++[y]).map B8)):=by
    have:=E'.zY N6.out;rw [<-X'.out] at this;rw [Hid,qg];exact this
   clear ln D;have s:=OX;generalize M':U l+1=nn at*;replace M':=T M';have hnb:nn<=20:=by have:=M'.out;omega
   go_wp2_with fail;have cY:=T s.lt;have A:=s.cell 2;have k3:=s.cell 3;simp only [qR,yN,qt] at A k3;refine zv 10 (λW=>i' W ⟨w,2,none⟩=J (.string hh)/\i' W ⟨w,3,none⟩=J (.string S2)) AL ⟨A,k3⟩ (λd=> ?_);refine zq [0,1,2,4,5] (a':= ?_) ?_;refine IA 3 rfl AL SQ (λK a=> ?_);go_simp
   (go_at_call 84;((with_reducible refine((R _).out).mono ?_);rintro e g ⟨o,c1,rfl,b⟩);have n: ∀{i:O} {v:la},i' t ⟨w,i,none⟩=some v->i' g ⟨w,i,none⟩=some v:=λ{i v} k=>(b.2.cell (p:=⟨w,i,none⟩) cY.out).trans k)
   refine a _ _ (⟨n A,n k3⟩) (λd=>xb ?_);clear a K;refine IA 6 rfl AL SQ (λK a=> ?_);go_simp
   (go_at_call 84;((with_reducible refine((iv _).out).mono ?_);rintro e j ⟨A2,c2,rfl,f⟩);have q:=qB cY.out b.2.size;have x: ∀{i:O} {v:la},i' g ⟨w,i,none⟩=some v->i' j ⟨w,i,none⟩=some v:=λ{i v} k=>(f.2.cell (p:=⟨w,i,none⟩) q).trans k)
   refine a _ _ (⟨x (n A),x (n k3)⟩) (λd=>xb ?_);clear a K;have L:=P'.drew.trans (b.2.mono (show (w:O)<=(t.drew:O) from P'.size));have P:=T (L.trans (f.2.mono L.size));have cK:=((((U'.drew.below b.2).more b.2.size).below f.2).more f.2.size);have cB:=(b.reads.below f.2).more f.2.size;have F:=T (Xe j _ o A2 _ u ih c5 c1 c2 _ u ih cK cB f.reads M);rw [<-I'.out] at F;unfold jQ at F;have E:=T (P.alloc P.size (Y #[Z ck nn c5,Z o u c1,Z A2 ih c2] 30));refine IA 7 rfl AL SQ (λK a=> ?_);go_simp;skip;refine a _ _ (⟨(((qZ _ j).alloc (qx _) _).cell (p:=⟨w,2,none⟩) (qB q f.2.size)).trans (x (n A)),(((qZ _ j).alloc (qx _) _).cell (p:=⟨w,3,none⟩) (qB q f.2.size)).trans (x (n k3))⟩) (λd=>xb ?_);clear a K;refine vf 8 F ?_;rintro e w4 ⟨A4,c4,rfl,z⟩;refine⟨_,rfl,(⟨(z.2.cell (p:=⟨w,2,none⟩) (qB q (qv f.2.size s8))).trans d.1,(z.2.cell (p:=⟨w,3,none⟩) (qB q (qv f.2.size s8))).trans d.2⟩),λd=> ?_⟩;refine zq [9] (a':= ?_) ?_;refine zV AL ?_ _;have HF:G (yG w w4 5 A4 H c4 (H.map B8)):=⟨qi z.1 E.size,E.trans (z.2.mono E.size)⟩;clear L cK cB z b f n x q d R iv;go_wp2;go_ret;exact⟨A4,c4,rfl,HF⟩
theorem F_ (a:Bool) (l:S JH) (k:O) (h:k<U l):pa a (l.take (k+1))=pa a (l.take k)++ei a l[k]:=by
 unfold pa;have e:l.take (k+1)=l.take k++[l[k]]:=by rw [qs,qX h];rfl
 rw [e,qg,xM];simp
theorem YS (a:Bool) (l:S JH) (k:O):U (pa a (l.take k))<=U (pa a l):=by
 conv=>rhs;rw [<-QG k l]
 unfold pa;rw [qg,xM,qK];omega
theorem P8 (a:Bool) (A:q') (c B:O) (l:S JH) (w:I) (h:E' w B 4 A l (ji l)) (N:B<=(w:O)) (hl:U l<=1000000000) (P: ∀r∈l,Yj r) (u':U (pa a l)<=1000000000):
  xG 34 #[a,Z A l c] w (jQ 5 w (U (pa a l)) ((pa a l).map B8)):=by
 obtain⟨ck,hi,D,s,E⟩:=xt QB;have H:=T h;have cY:=T N;have cB:=T P;clear h N P;go_wp2;go_loopw [5,10] (λv5 C wr=> ∃(k m c2:O) (d:q'),v5=Z d m c2/\C=(k:la)/\k<=U l/\G (m=U (pa a (l.take k)))/\G (xp wr w 5 1 (Z d m c2) m ((pa a (l.take k)).map B8))/\G (r' w w wr)) (λ_ C _=>U l-(intOf C).toNat)
 ·exact⟨0,0,0,none,rfl,rfl,qp _,rfl,qP _ _ _ _,qZ _ _⟩
 ·obtain⟨k,m,c2,d,rfl,rfl,hk,b,n,f⟩:=hrel;by_cases x:k<U l
  ·have z':(k:V)<(U l:V):=M;obtain⟨ad,rfl,_,y0,y1,y2,y3⟩:=ZH (H.below (f.mono cY)) k x;have u:=λW=>T (F9 a _ W (cB _ (zx x)));have y:=T (F_ a l k x);have Q:=T (YS a l (k+1));have hh:=YS a l k;rw [<-b.out] at hh;have j:m+U (ei a l[k])=U (pa a (l.take (k+1))):=by rw [y.out,qK,<-b.out]
   have m':G ((pa a (l.take k)).map B8++(ei a l[k]).map B8=(pa a (l.take (k+1))).map B8):=by rw [Hid,y.out,qg]
   have cL:=Q.out;rw [<-j] at cL;generalize o:(pa a (l.take (k+1)))=ys at*;replace o:=T o;generalize pa a (l.take k)=zs,ei a l[k]=i,(⟨l[k].src.toArray⟩:ByteArray)=K,(⟨l[k].txt.toArray⟩:ByteArray)=S2,(l[k].time:V)=t,(l[k].level:V)=uK at*;unfold jQ at u;have iL:m+U i<=maxLen:=SJ;have d':(m+U i)*1<=140737488355328:=M;have v:=T (f.alloc f.size (Y #[.int .u64 t,gR uK, .string K, .string S2] 45));have ih:=T (n.alloc (Y #[.int .u64 t,gR uK, .string K, .string S2] 45));replace j:=T j;clear hh cL b;go_wp2_with fail;refine(u _).out.mono ?_;rintro e L ⟨A3,iv,rfl,p⟩;have z:=T (qG ih p.2);have q:=T (v.trans (p.2.mono v.size));have F:=T p.reads;have R:=T q.size;clear u p n f;go_wp2_with (at_builtin;refine qF _ rfl (.tmp 14) (.tmp 17) 30 rfl w 5 ck (gR 0) 1 1 qu hi D s E rfl M d m c2 _ rfl z L A3 i iv _ rfl F (YR _) iL d' R ?_;intro cK qj w4 g ln X;have p':=T (zG q ln z R);replace g:=T g;clear ln X);rw [m'.out] at g;refine xk ?_;exact⟨k+1,m+U i,qj,cK,xg,xg,M,by rw [o.out];exact j,by rw [o.out];exact g,p'⟩
  ·obtain rfl:k=U l:=M;rw [jP] at b n;go_wp2;go_ret;refine⟨d,c2, ?_, ?_,f⟩
   ·rw [<-b.out];rfl
   ·rw [<-b.out];exact n.out
theorem pS (o:S O) (v:O) (m:O) (a:U o=m+1):(o.map NV).set m (NV v)=(o.dropLast++[v]).map NV:=by
 have h:o≠[]:=by intro e;rw [e] at a;cases a
 obtain⟨b,x,rfl⟩: ∃b x,o=b++[x]:=⟨_,_,(ZE h).symm⟩;have c:U b=m:=by simpa using a
 rw [Jz,qg,qg,jy,xB,<-c];rw [Qh _ _ s8];simp
theorem pN (o:S O) (m:O) (b:U o=m+1):(o.map NV)[m]? =J (NV (o.getLastD 0)):=by
 have h:o≠[]:=by intro e;rw [e] at b;cases b
 obtain⟨a,x,rfl⟩: ∃a x,o=a++[x]:=⟨_,_,(ZE h).symm⟩;have c:U a=m:=by simpa using b
 rw [qg,<-c,qm s8];simp
theorem DV (o:S O) (k:O) (h: ∀x∈o,x<=k):o.getLastD 0<=k:=by
 by_cases h0:o=[]
 ·subst h0;exact qp _
 ·obtain⟨a,x,rfl⟩: ∃a x,o=a++[x]:=⟨_,_,(ZE h0).symm⟩;simp only [Jj];exact h x s8
def gz (w:I) (g:S O) (e:Ending) (w':I):Prop:= ∃b a,e=t' (Z b g a)/\xp w' w 3 1 (Z b g a) g (g.map NV)/\r' w w w'
theorem gj (size:V) (s:Bool) (A:Option Addr) (c B:O) (l:S JH) (w:I) (h:E' w B 4 A l (ji l)) (hB:B<=(w:O)) (hl:U l<=1000000) (N': ∀r∈l,Yj r) (htot:U (pa s l)<=1000000000):
  xG 28 #[size, .bool s,Z A l c] w (gz w (sh size s l)):=by
 obtain⟨i0,hi,iL,m',z'⟩:=qA Pf;replace hi:=T hi;replace iL:=T iL;replace m':=T m';replace z':=T z';have H:=T h;have HB:=T hB;have U':=T N';clear h hB N';go_enter func28,ntmps28
 go_wp2_with fail;go_loopw [7,8,14] (λv7 v8 N9 wr=> ∃(k m c2 ln:O) (cB:Option Addr) (o:S O),v7=Z cB m c2/\v8=(ln:la)/\N9=(k:la)/\k<=U l/\m<=k/\G (U o=m)/\G (ln<=U (pa s (l.take k)))/\G (∀x∈o,x<=k)/\G (Yl size s o ln (l.drop k)=sh size s l)/\G (xp wr w 3 1 (Z cB m c2) m (o.map NV))/\G (r' w w wr)) (λ_ _ N9 _=>U l-(intOf N9).toNat)
 case atStart=>exact⟨0,0,0,0,none,[],rfl,rfl,rfl,qp _,qx _,rfl,qp _,by simp [Hid],rfl,qP _ _ _ _,qZ _ _⟩
 case round=>
  obtain⟨k,m,c2,ln,cB,o,rfl,rfl,rfl,hk,hmk,y,HH,P,HG,HO,HW⟩:=hrel;by_cases G':k<U l
  ·have hlt':(k:V)<(U l:V):=M
   obtain⟨ad,rfl,_,y0,y1,y2,y3⟩:=ZH (H.below (HW.mono HB)) k G';have z:=λW=>T (F9 s l[k] W (U'.out _ (zx G')));have P':=F_ s l k G';have hle:=YS s l (k+1);have S':U (pa s (l.take (k+1)))=U (pa s (l.take k))+U (ei s l[k]):=by rw [P',qK]
   have hhv:=HH.out;have HD:G (l.drop k=l[k]::l.drop (k+1)):=zK G';have d:=HG.out;rw [HD.out] at d;unfold Yl at d;generalize sh size s l=GG at*
   generalize X:l.drop (k+1)=qj at*
   replace X:=T X;generalize ck:U (pa s (l.take (k+1)))=tt at*
   replace ck:=T ck;generalize U (pa s (l.take k))=t0 at*
   generalize ei s l[k]=xs at*
   generalize (⟨l[k].src.toArray⟩:ByteArray)=S1 at*
   generalize (⟨l[k].txt.toArray⟩:ByteArray)=S2 at*
   generalize (l[k].time:V)=t at*
   generalize (l[k].level:V)=lv at*
   unfold jQ at z;generalize O':U xs=n at*
   replace O':=T O';have hb:ln+n<=1000000000:=M;have OX:G (ln+n<=tt):=by rw [Hid];omega
   have M':G (n<=tt):=by rw [Hid];omega
   have v:=T (HW.alloc HW.size (Y #[.int .u64 t,gR lv, .string S1, .string S2] 45));have ih:=T (HO.alloc (Y #[.int .u64 t,gR lv, .string S1, .string S2] 45));have N6:m+1<=maxLen:=SJ;have J':(m+1)*8<=140737488355328:=M;have I':G (o=[]↔m=0):=by
    rw [Hid,<-y.out];exact xq.symm
   clear P' hle S' hhv HD HG HH HW HO htot;by_cases hz:m=0
   ·rw [qk (.inl (I'.out.2 hz))] at d
    subst hz;replace d:=T d
    go_wp2_with fail;refine(z _).out.mono ?_;rintro e u ⟨A3,c3,rfl,i⟩;have b:=T (qG ih i.2);have g:=T (v.trans (i.2.mono v.size));have hh:G ((w:O)<=(u:O)):=g.size;clear z i ih v
    go_wp2_with (at_builtin;refine qF _ rfl (.tmp 33) (.tmp 34) 62 rfl w 3 i0 () 1 8 jj hi iL m' z' rfl M cB 0 c2 _ rfl (b.alloc _) ((u:O)+1) u 1 1 [e' 0] rfl (zU _ _ _) (IB rfl) N6 J' (qv hh s8) ?_;intro A4 F E C iv d';have R:=T (zG (g.alloc g.size (Y #[()] 3)) iv (b.alloc _) (qv hh s8));clear iv d';obtain⟨a,rfl⟩:=Zx C M;have j:xp E w 3 1 (Z a 1 F) 1 ((o++[0]).map NV):=(by rw [qg];exact C);have q:=(xU (k:=0) j (ze _)).1;have D':=(xU (k:=0) j (ze _)).2;rw [pN (o++[0]) 0 (by rw [qK,y.out];rfl)] at q;have f:=Qn (k:=0) j (NV 1);rw [pS (o++[0]) 1 0 (by rw [qK,y.out];rfl),Jz] at f;have uK:G (xp (E.setCell a (e' 1)) w 3 1 (Z a 1 F) 1 ((o++[1]).map NV)):=f;have cK:=(yZ j).1;have D:G (r' w w (E.setCell a (e' 1))):=R.setCell (p:= a) cK (NV 1);unfold NV at q;simp only [Jj] at q;clear f C j R cK)
    have N:G (∀x∈o++[1],x<=k+1):=λx cL=>by
     rcases zt.1 cL with h|h
     ·have:=P.out x h;omega
     ·rw [qy.1 h];omega
    have Q:G (U (o++[1])=0+1):=by rw [Hid,qK,y.out];rfl
    go_roundw
    case rel=>exact⟨k+1,0+1,F,n,some ⟨a,0,none⟩,o++[1],by first|rfl|simp,by first|rfl|simp,by first|rfl|simp,M,M,Q,by rw [ck.out];exact M',N,by rw [X.out];exact d,uK,D⟩
    case measure=>simp [intOf];omega
   ·rcases Int.lt_or_le 1 size with hs|hs
    focus
     have L:max 1 size=size:=M
     have Q': ¬size<=1:=M;by_cases hgt:size<(ln:V)+(n:V)
     rotate_left
     focus have gA:=trivial
    rotate_left 2
    focus
     have L:max 1 size=1:=M
     have Q': ¬1<size:=M;by_cases hgt:1<(ln:V)+(n:V)
     rotate_left
     focus have gA:=trivial
    all_goals first
     |clear gA
      rw [qJ (by rw [I'.out,L];omega)] at d
      clear L;replace d:=T d;obtain⟨mm,K⟩: ∃mm,m=mm+1:=⟨m-1,M⟩;have X':((m:V)==0)=false:=SZ;have Z':(m:V)-1=(mm:V):=M;have hmi2:(mm:V)<(m:V):=M;have hmi0:(0:V)<=(mm:V):=M;have u':G (mm<m):=by rw [Hid];omega
      have cY:G (U o=mm+1):=by rw [Hid,y.out,K]
      replace K:=T K
      go_wp2_with fail;refine(z _).out.mono ?_;rintro e u ⟨A3,c3,rfl,i⟩;have b:=T (qG ih i.2);have g:=T (v.trans (i.2.mono v.size));have hh:G ((w:O)<=(u:O)):=g.size;clear z i ih v;obtain⟨a,rfl⟩:=Zx b M
      have q:=(xU (k:=mm) b u').1;have D':=(xU (k:=mm) b u').2;rw [pN o mm cY.out] at q;have hxl:o.getLastD 0<=k:=DV o k P.out;have f:=Qn (k:=mm) b (NV (o.getLastD 0+1));rw [pS o (o.getLastD 0+1) mm cY.out] at f;have p':NV (o.getLastD 0+1)=e' ((o.getLastD 0:V)+1):=by unfold NV;rw [xe];rfl
      have D:=T (g.setCell (p:=⟨a,mm,none⟩) (yZ b).1 (NV (o.getLastD 0+1)));rw [p'] at f D;have uK:=T f;clear f p';have N:G (∀x∈o.dropLast++[o.getLastD 0+1],x<=k+1):=λx cL=>by
       rcases zt.1 cL with h|h
       ·have:=P.out x (List.dropLast_subset _ h);omega
       ·rw [qy.1 h];omega
      have Q:G (U (o.dropLast++[o.getLastD 0+1])=m):=by rw [Hid,qK,List.length_dropLast,cY.out,K.out];rfl
      unfold NV at q;generalize o.dropLast++[o.getLastD 0+1]=o2 at*
      generalize o.getLastD 0=x at*
      clear b g P
      go_wp2_with fail;go_roundw
      case rel=>exact⟨k+1,m,c2,ln+n,some ⟨a,0,none⟩,o2,by first|rfl|simp,by first|rfl|simp,by first|rfl|simp,M,M,Q,by rw [ck.out];exact OX,N,by rw [X.out];exact d,uK,D⟩
      case measure=>simp [intOf];omega
     |rw [qk (.inr (by rw [L];omega))] at d
      clear L;replace d:=T d
      go_wp2_with fail;refine(z _).out.mono ?_;rintro e u ⟨A3,c3,rfl,i⟩;have b:=T (qG ih i.2);have g:=T (v.trans (i.2.mono v.size));have hh:G ((w:O)<=(u:O)):=g.size;clear z i ih v
      go_wp2_with (at_builtin;refine qF _ rfl (.tmp 33) (.tmp 34) 62 rfl w 3 i0 () 1 8 jj hi iL m' z' rfl M cB m c2 _ rfl (b.alloc _) ((u:O)+1) u 1 1 [e' 0] rfl (zU _ _ _) (IB rfl) N6 J' (qv hh s8) ?_;intro A4 F E C iv d';have R:=T (zG (g.alloc g.size (Y #[()] 3)) iv (b.alloc _) (qv hh s8));clear iv d';obtain⟨a,rfl⟩:=Zx C M;have j:xp E w 3 1 (Z a (m+1) F) (m+1) ((o++[0]).map NV):=(by rw [qg];exact C);have q:=(xU (k:=m) j (ze _)).1;have D':=(xU (k:=m) j (ze _)).2;rw [pN (o++[0]) m (by rw [qK,y.out];rfl)] at q;have f:=Qn (k:=m) j (NV 1);rw [pS (o++[0]) 1 m (by rw [qK,y.out];rfl),Jz] at f;have uK:G (xp (E.setCell ⟨a,m,none⟩ (e' 1)) w 3 1 (Z a (m+1) F) (m+1) ((o++[1]).map NV)):=f;have cK:=(yZ j).1;have D:G (r' w w (E.setCell ⟨a,m,none⟩ (e' 1))):=R.setCell (p:=⟨a,m,none⟩) cK (NV 1);unfold NV at q;simp only [Jj] at q;clear f C j R cK)
      have N:G (∀x∈o++[1],x<=k+1):=λx cL=>by
       rcases zt.1 cL with h|h
       ·have:=P.out x h;omega
       ·rw [qy.1 h];omega
      have Q:G (U (o++[1])=m+1):=by rw [Hid,qK,y.out];rfl
      go_roundw
      case rel=>exact⟨k+1,m+1,F,n,some ⟨a,0,none⟩,o++[1],by first|rfl|simp,by first|rfl|simp,by first|rfl|simp,M,M,Q,by rw [ck.out];exact M',N,by rw [X.out];exact d,uK,D⟩
      case measure=>simp [intOf];omega
  ·obtain rfl:k=U l:=M
   have Y':G (sh size s l=o):=by rw [Hid,<-HG.out,List.drop_length];unfold Yl;rfl
   clear HG
   go_wp2_with fail;go_ret;unfold gz;rw [Y'.out,y.out];exact⟨cB,c2,rfl,HO.out,HW.out⟩
theorem Gm (a:qn) (l:S qn) (k:O) (b:k<U l):Je a (l.drop k)=kD (G4 a l[k])++B1 (l[k].drop (G4 a l[k]))++Je l[k] (l.drop (k+1)):=by
 rw [zK b];rfl
theorem UT (s:qn):U (B1 s)<=10+U s:=by
 have:=(jn s).2;unfold B1;rw [qK];omega
theorem gC (A:Option Addr) (n c B:O) (l:S (S AB)) (W:I) (h:E' W B 1 A n (l.map Lj)) (hB:B<=(W:O)) (hn:n<=1000) (h1:1<=n) (hc:n<=c) (D: ∀s∈l,U s<=25):
  xG 128 #[Z A n c] W (jQ 5 W (U (e9 l)) ((e9 l).map B8)):=by
 have hl:=h.len;obtain⟨i0,hi,Q',I',hz2⟩:=qA XJ;have h0:0<U l:=M;obtain⟨F,u,hA,-,Q,cB⟩:=h.at_ (show 0<n by omega)
 subst hA;have ha0:F.add 0=F:=by unfold Addr.add;simp
 rw [qD,qX h0] at Q;have ck:u=Lj l[0]:=(zy Q).symm;subst ck;have d:=T (Yd l[0] W (by have:=D _ (zx h0);omega))
 have lt0:=UT l[0];have l0:=D _ (zx h0);obtain⟨R,hR⟩: ∃R,R=e9 l:=⟨_,rfl⟩;rw [<-hR];have N6:G (B1 l[0]++Je l[0] (l.drop 1)=R):=by
  rw [Hid,hR]
  match l,h0 with
  |a::t,_=>rfl
 have H1:=T (h.VC (k:=1) M hc);have hcut:=jI (P:=prog) 99 9 i0 1 jD hi I' (some F) n c 1 .i64 M;rw [show((1:O):V)=1 from rfl] at hcut
 have H:=T h;have G':=T D;have HL:=T hl;unfold Lj at cB d;rw [ha0] at cB;unfold jQ at d⊢;generalize hy:B1 l[0]=y at*
 generalize N:l[0]=s0 at*
 replace N:=T N;clear hy h D hR Q hl hi Q' I' hz2;generalize J':xo (some F) c 1 1=A1 at*
 replace J':=T J';go_enter func128,ntmps128
 go_wp2_with fail;refine d.mono ?_;rintro e w1 ⟨A3,c3,rfl,X⟩;have w:=T X.1;have HB:=T X.2;clear X d
 go_wp2_with fail;generalize g:U y=m0 at*
 replace g:=T g;go_loopw [3,14] (λv3 u' wr=> ∃(k m c2:O) (j:Option Addr) (f:S AB) (p:S AB),v3=Z j m c2/\u'=(k:la)/\k+1<=n/\m<=35+60*k/\G (U f=m)/\G (l[k]? =some p)/\G (f++Je p (l.drop (k+1))=R)/\G (xp wr (W:O) 5 1 (Z j m c2) m (f.map B8))/\G (r' (W:O) W wr)) (λ_ u' _=>n-(intOf u').toNat)
 case atStart=>exact⟨0,m0,c3,A3,y,s0,rfl,rfl,M,M,g,by rw [Hid,qX h0,N.out],N6,w,HB⟩
 case round=>
  clear w HB g N6 cB;obtain⟨k,m,c2,j,f,p,rfl,rfl,hk,hm,d',cY,ih,cK,v⟩:=hrel;by_cases Y':k+1<n
  ·have hlt':(k:V)<((n-1:O):V):=M
   have S':k<n-1:=M;have hk0:(0:V)<=(k:V):=M;have hkn:(k:V)<(n:V):=M;have ln:k+1<U l:=by rw [HL.out];exact Y'
   have z:=ih.out;rw [Gm p l (k+1) ln] at z;obtain⟨ad1,u1,cL,-,iL,M'⟩:=(H.below (v.mono hB)).at_ (show k<n by omega)
   injection cL with cL
   subst cL;rw [qD,cY.out] at iL;have ck:u1=Lj p:=(zy iL).symm;subst ck;obtain⟨ad2,u2,X',-,iv,N9⟩:=(H1.below (v.mono hB)).at_ S';rw [qD,jt,show 1+k=k+1 by omega,qX ln] at iv
   have hsl:=G'.out _ (zx ln);have hp:=G'.out p (zQ cY);have Z':G (l[k+1]? =some l[k+1]):=qX ln;generalize l[k+1]=s at*
   have e2:u2=Lj s:=(zy iv).symm;subst e2;subst X';have qj:=T (kV p s wr M M);have OX:=(WV p s).2;generalize G4 p s=q at*
   have L:=λW=>T (vW q W M);have d:=λW=>T (Yd (s.drop q) W (by rw [qI];omega))
   have lq:=(jn q).2;have lt:=UT (s.drop q);have ltd:U (s.drop q)<=25:=by rw [qI];omega
   have hfr:=λW=>CX ⟨s.toArray⟩ s rfl q OX W;have wq:IntKind.u64.wrap (q:V)=(q:V):=by rw [qS];omega
   have N':G ((W:O)<=(wr:O)):=v.size;unfold jQ at L d;unfold Lj at M' N9 qj d;generalize kD q=o at*
   generalize B1 (s.drop q)=r at*
   generalize (⟨(s.drop q).toArray⟩:ByteArray)=SD at*
   generalize (⟨s.toArray⟩:ByteArray)=SS_ at*
   generalize (⟨p.toArray⟩:ByteArray)=SP at*
   replace z:=T z;clear iL iv ih cY
   go_wp2_with fail;refine qj.mono ?_;rintro e i ⟨rfl,hD⟩;have uK:=T (v.trans (hD.below (W:O)));have D':=T (qG cK (hD.below _));have z':G ((W:O)<=(i:O)):=uK.size;clear qj hD v cK N' M' N9
   go_wp2_with fail;refine zv 11 (λ_=>True) AL trivial (λC=> ?_)
   refine zq [0,1,2,4,5,6] (a':= ?_) ?_;refine IA 3 rfl AL SQ (λK b=> ?_);go_simp
   (go_at_call 31;((with_reducible refine((L _).out).mono ?_);rintro e wA ⟨A5,c5,rfl,p'⟩);have bA:r' i i wA:=(qZ _ i).drew.trans p'.2)
   refine b _ _ (trivial) (λC=> ?_);clear b K;try simp only [Act.put,qQ,qY,qV]
   refine IA 7 rfl AL SQ (λK b=> ?_);go_simp
   (go_at_call 84;((with_reducible refine((d _).out).mono ?_);rintro e wB ⟨A6,c6,rfl,x⟩);have hh:=bA.trans (x.2.mono bA.size))
   refine b _ _ (trivial) (λC=> ?_);clear b K;try simp only [Act.put,qQ,qY,qV]
   have KA:=T (Xe wB j A5 A6 m o r c2 c5 c6 f o r (E'.zY (qG D' hh)) ((p'.reads.below x.2).more x.2.size) x.reads M);have E:r' i i (wB.alloc (Y #[Z j m c2,Z A5 o c5,Z A6 r c6] 30)):=hh.alloc hh.size _;unfold jQ at KA;have hl12:U (f++o++r)<=35+60*(k+1):=by rw [qK,qK,d'.out];omega
   have O':G (f++o++r++Je s (l.drop (k+1+1))=R):=by rw [Hid,<-z.out];simp
   generalize f++o++r=y0 at*
   refine IA 8 rfl AL SQ (λK b=> ?_);go_simp;skip
   refine b _ _ (trivial) (λC=> ?_);clear b K;try simp only [Act.put,qQ,qY,qV]
   refine IA 9 rfl AL SQ (λK b=> ?_);go_simp
   (go_at_call 30;((with_reducible refine(KA.out).mono ?_);rintro e wD ⟨A7,c7,rfl,m'⟩);have bD:=E.trans (m'.2.mono E.size))
   refine b _ _ (trivial) (λC=> ?_);clear b K;try simp only [Act.put,qQ,qY,qV]
   refine zq [10] (a':= ?_) ?_;refine zV AL ?_ _;have U':=T (qi m'.1 (qv z' E.size));have P':=T (uK.trans (bD.mono z'));clear KA L d p' x m' bA hh E bD C z D' uK;generalize g:U y0=m1 at*
   replace g:=T g
   go_wp2_with fail;go_roundw
   case rel=>exact⟨k+1,m1,c7,A7,y0,s,by first|rfl|simp,by first|rfl|simp,M,hl12,g,Z',O',U',P'⟩
   case measure=>simp [intOf];omega
  ·have hge: ¬(k:V)<((n-1:O):V):=M
   have hge2: ¬k<n-1:=M;have w:G (f=R):=by
    have h:=ih.out;rw [zD (by rw [HL.out];omega)] at h
    rw [Hid,<-h];simp [Je]
   clear ih
   go_wp2_with fail;go_ret;exact⟨j,c2,by rw [<-w.out,d'.out];rfl,by rw [<-w.out,d'.out];exact⟨cK.out,v.out⟩⟩
theorem EW (W:I) (i k n f m:q') (c d n3 a b c1 c2 q o r:O) (l e g j h:qn) (h1:E' W W 1 i c (l.map B8)) (h2:E' W W 1 k d (e.map B8)) (h3:E' W W 1 n n3 (g.map B8)) (h4:E' W W 1 f a (j.map B8)) (h5:E' W W 1 m b (h.map B8)) (ht:c+d+n3+a+b<=1000000000):
  xG 30 #[Z W 5 5] (W (Y #[Z i c c1,Z k d c2,Z n n3 q,Z f a o,Z m b r] 30)) (jQ 5 (W (Y #[Z i c c1,Z k d c2,Z n n3 q,Z f a o,Z m b r] 30)) (U (l++e++g++j++h)) ((l++e++g++j++h).map B8)):=by
 have x:=h1.len;have w:=h2.len;have u:=h3.len;have v:=h4.len;have t:=h5.len;have K:=fZ W 5 [(i,c,c1,l),(k,d,c2,e),(n,n3,q,g),(f,a,o,j),(m,b,r,h)] (by
  intro p s;simp only [qL,xj,Ze] at s;rcases s with rfl|rfl|rfl|rfl|rfl
  ·exact h1
  ·exact h2
  ·exact h3
  ·exact h4
  ·exact h5) s8 SZ
 simpa [jY] using K
theorem Mg (p:Bool) (w:I):xG 32 #[p] w λe w'=>e=t' (gR ((C1 p).toNat:V))/\w=w':=by
 cases p
 ·go_wp2;go_ret;exact⟨rfl,rfl⟩
 ·go_wp2;go_ret;exact⟨rfl,rfl⟩
theorem nD (l:S JH): ∀k,ji (l.take k)=(ji l).take (k*4):=by
 induction l with
 |nil=>intro k;simp [ji]
 |cons a l b=>
  intro k;cases k with
  |zero=>simp [ji]
  |succ k=>
   rw [List.take_succ_cons,show ji (a::l.take k)=VF a++ji (l.take k) by simp [ji],show ji (a::l)=VF a++ji l by simp [ji],b k];have c:U (VF a)=4:=rfl;rw [show(k+1)*4=U (VF a)+k*4 by rw [c];omega,List.take_length_add_append]
theorem nF (l:S JH): ∀k,ji (l.drop k)=(ji l).drop (k*4):=by
 induction l with
 |nil=>intro k;simp [ji]
 |cons a l b=>
  intro k;cases k with
  |zero=>simp [ji]
  |succ k=>
   rw [List.drop_succ_cons,show ji (a::l)=VF a++ji l by simp [ji],b k];have c:U (VF a)=4:=rfl;rw [show(k+1)*4=U (VF a)+k*4 by rw [c];omega,List.drop_length_add_append]
theorem E'.ik (h:E' w B 4 A n (ji l)) (a:k<=n):E' w B 4 A k (ji (l.take k)):=by rw [nD];exact h.take a
theorem E'.MG {c:O} (h:E' w B 4 A n (ji l)) (b:k<=n) (a:n<=c):E' w B 4 (xo A c k 4) (n-k) (ji (l.drop k)):=by rw [nF];exact h.cut b a
def Es (a:Bool):S O->S JH->Prop
 |[],_=>True
 |n::c,l=>n<=U l/\U (pa true (l.take n))<=32768/\(a=false->Sq (Bs (pa true (l.take n))))/\Es a c (l.drop n)
theorem pL (b:qn) (a:Bool) (h:U b<=32768):U (Rv b a)<=40000:=by
 unfold Rv;split
 ·unfold nv;rw [ve];have h1:=(jn b).2;have h2:=(jn (U (uX a b))).2;have h3:U (uX a b)<=U b:=by
   unfold uX;split
   ·rename_i h;unfold sy at h;have:=xD (Bool.and_eq_true_iff.1 h).2;omega
   ·exact qx _
  simp only [qK,qf,zF];omega
 ·exact qp _
theorem BG (x:O): ∀l,Ya x l<=U l
 |[]=>qx _
 |r::t=>by
  unfold Ya;split
  ·have:=BG x t;rw [qf];omega
  ·exact qp _
theorem dH (x:O): ∀(l:S JH) (j:O) (h:j<U l),j<=Ya x l->(l[j].level=x↔j<Ya x l)
 |r::t,0,h,_=>by
  unfold Ya;by_cases a:r.level=x
  ·rw [qk a];exact⟨λ_=>M,λ_=>a⟩
  ·rw [qJ a];exact⟨λe=>absurd e a,λe=>M⟩
 |r::t,j+1,h,b=>by
  unfold Ya at b⊢;by_cases a:r.level=x
  ·rw [qk a] at b⊢
   have:=dH x t j (by simpa using h) M
   rw [List.getElem_cons_succ,this];omega
  ·rw [qJ a] at b;omega
theorem ES (a:O) (r:JH) (t:S JH):Kb a (r::t)=kD (zig ((r.time+18446744073709551616-a)%18446744073709551616))++Kb r.time t:=rfl
theorem IP (d:O) (h:d<18446744073709551616):zig d<18446744073709551616:=by
 unfold zig;split<;>omega
theorem En (A:Option Addr) (c B:O) (l:S JH) (w:I) (h:E' w B 4 A l (ji l)) (D:B<=(w:O)) (hl:U l<=20000) (hc:U l<=c) (hm:c<=maxLen) (hok: ∀r∈l,Yj r):
  xG 59 #[Z A l c] w (jQ 5 w (U (ui l)) ((ui l).map B8)):=by
 obtain⟨i0,hi,J',P',O'⟩:=qA QB;replace hi:=T hi;replace J':=T J';replace P':=T P';replace O':=T O';obtain⟨j0,hj,jz0,jz1,jz2⟩:=qA PH;replace hj:=T hj;replace jz1:=T jz1;clear jz0 jz2;obtain⟨R,hR⟩: ∃R,R=ui l:=⟨_,rfl⟩;rw [<-hR];replace hR:G (Kb 0 l++Xo l l=R):=hR.symm;have H:=T h;have HOK:=T hok;clear h hok;go_enter func59,ntmps59
 go_wp2_with fail;go_loopw [3,4,10] (λv3 v4 v10 wr=> ∃(k m c2 G':O) (y:Option Addr) (o:S AB),v3=Z y m c2/\v4= .int .u64 (G':V)/\v10=(k:la)/\k<=U l/\m<=10*k/\G'<18446744073709551616/\G (U o=m)/\G (o++Kb G' (l.drop k)=Kb 0 l)/\G (xp wr w 5 1 (Z y m c2) m (o.map B8))/\G (r' w w wr)) (λ_ _ v10 _=>U l-(intOf v10).toNat)
 case atStart=>exact⟨0,0,0,0,none,[],rfl,rfl,rfl,qp _,qx _,M,rfl,rfl,qP _ _ _ _,qZ _ _⟩
 case round=>
  obtain⟨k,m,c2,G',y,o,rfl,rfl,rfl,i,hm10,hwas,HM,HT,HO,uK⟩:=hrel;by_cases hlt:k<U l
  ·have hlt':(k:V)<(U l:V):=M
   obtain⟨g,rfl,_,y0,y1,y2,y3⟩:=ZH (H.below (uK.mono D)) k hlt;have hdr:l.drop k=l[k]::l.drop (k+1):=zK hlt;have htk:=(HOK.out _ (zx hlt)).1;have cB:=HT.out;rw [hdr,ES] at cB;obtain⟨d,hd⟩: ∃d,d=(l[k].time+18446744073709551616-G')%18446744073709551616:=⟨_,rfl⟩;rw [<-hd] at cB;have hd64:d<18446744073709551616:=by rw [hd];exact xC _ M
   have KZ:=λW=>T (OA d W hd64);have hz64:=IP d hd64;have cL:=λW=>T (vW (zig d) W hz64);have Z':=(jn (zig d)).2;have C:IntKind.u64.wrap ((l[k].time:V)-(G':V))=(d:V):=by rw [qS];omega
   generalize zig d=z at*
   generalize kD z=xs at*
   generalize hTT:l.drop (k+1)=qj at*
   replace hTT:=T hTT;generalize (⟨l[k].src.toArray⟩:ByteArray)=S1 at*
   generalize (⟨l[k].txt.toArray⟩:ByteArray)=S2 at*
   generalize (l[k].level:V)=u at*
   generalize l[k].time=F at*
   rw [<-jY] at cB;replace cB:=T cB;replace hd:=T hd;unfold jQ at cL;obtain⟨b,v⟩: ∃b,b=U xs:=⟨_,rfl⟩;have X':m+b<=maxLen:=SJ;have N9:(m+b)*1<=140737488355328:=M;have HWa:=T (uK.alloc uK.size (Y #[.int .u64 (F:V),gR u, .string S1, .string S2] 45));have HOa:=T (HO.alloc (Y #[.int .u64 (F:V),gR u, .string S1, .string S2] 45));have hgr:G ((wr:O)<(wr (Y #[.int .u64 (F:V),gR u, .string S1, .string S2] 45)).heap.size):=by rw [Hid];simp
   have hx0:G (i' (wr (Y #[.int .u64 (F:V),gR u, .string S1, .string S2] 45)) (wr:O)=J (.int .u64 (F:V))):=(F'.new wr 45 #[.int .u64 (F:V),gR u, .string S1, .string S2]).cell 0;have HBKa:G (F' (wr (Y #[.int .u64 (F:V),gR u, .string S1, .string S2] 45)) (wr:O) 45 #[.int .u64 (F:V),gR u, .string S1, .string S2]):=F'.new _ _ _;have hl10:b<=10:=by rw [v];exact Z'
   clear hdr HT HO uK
   go_wp2_with fail;refine(KZ _).out.mono ?_;rintro e w' ⟨rfl,rfl⟩
   go_wp2_with fail;refine(cL _).out.mono ?_;rintro e w2 ⟨A3,c3,rfl,hf⟩;generalize wr (Y #[.int .u64 (F:V),gR u, .string S1, .string S2] 45)=wa at*
   have HO2:=T (qG HOa hf.2);have HW2:=T (HWa.trans (hf.2.mono HWa.size));have HR2:=T hf.reads;have hsz2:G ((w:O)<=(w2:O)):=HW2.size;have hx2:G (i' w2 (wr:O)=J (.int .u64 (F:V))):=(hf.2.cell (p:= (wr:O)) hgr).trans hx0.out;have hgr2:G ((wr:O)<(w2:O)):=qB hgr hf.2.size;have hrc:=hf.2;rw [<-v] at HR2⊢;replace v:=T v;have HBK:G (∃cs,F' w2 (wr:O) 45 cs):=⟨_,HBKa.below hf.2 hgr⟩;clear KZ cL hf HOa HWa hrc
   go_wp2_with (at_builtin;refine qF _ rfl (.tmp 14) (.tmp 20) 30 rfl w 5 i0 (gR 0) 1 1 qu hi J' P' O' rfl M y m c2 _ rfl HO2 w2 A3 b c3 _ rfl HR2 (YR _) X' N9 hsz2 ?_;intro A4 c4 w4 ho4 hg4 hs4;have HW4:=T (zG HW2 hg4 HO2 hsz2);have s:qE (K' y) w2 w4:=(qE.refl _ _).grown hg4 (λk i=> .inl i);have hx4:i' w4 (wr:O)=J (.int .u64 (F:V)):=s.cell (p:= (wr:O)) (λi=>by obtain⟨cs,hcs⟩:=HBK.out;exact qT HO2 hcs FV _ i rfl) hx2.out;replace ho4:=T ho4;clear hg4 hs4 s)
   have HO4:G (xp w4 w 5 1 (Z A4 (m+b) c4) (m+b) ((o++xs).map B8)):=by rw [Hid,qg];exact ho4.out
   have hac:G (U (o++xs)=m+b):=by rw [Hid,qK,HM.out,v.out]
   clear HO2 HW2 HR2 ho4 hx4 hx2 hx0 HBK HBKa;go_roundw
   case rel=>exact⟨k+1,m+b,c4,F,A4,o++xs,by first|rfl|simp,by first|rfl|simp,by first|rfl|simp,M,M,htk,hac,by rw [hTT.out];exact cB,HO4,HW4⟩
   case measure=>simp [intOf];omega
  ·obtain rfl:k=U l:=M
   have cB:G (o=Kb 0 l):=by
    have h:=HT.out;rw [List.drop_length,show Kb G' []=[] from rfl,jx] at h
    exact h
   have D':G (o++Xo l l=R):=by rw [Hid,cB.out];exact hR.out
   have u':=T (H.below (uK.mono D));generalize Z':U l=nl at*
   replace Z':=T Z';clear HT cB hR;obtain⟨w0,hw0⟩: ∃w',w'=wr:=⟨_,rfl⟩;subst hw0
   go_wp2_with fail;go_loopw [0,3] (λv0 v3 wr=> ∃(a E m c2 f:O) (Ar y:Option Addr) (lr:S JH) (o:S AB),v0=Z Ar a E/\v3=Z y m c2/\a<=nl/\a<=E/\E<=maxLen/\a<=f/\m+11*a<=21*nl/\G (U lr=a)/\G (U o=m)/\G (o++Xo f lr=R)/\G (∀r∈lr,Yj r)/\G (E' wr B 4 Ar a (ji lr))/\G (xp wr w 5 1 (Z y m c2) m (o.map B8))/\G (r' w w wr)) (λv0 _ _=>Y8 v0)
   case atStart=>exact⟨nl,c,m,c2,nl,A,y,l,o,rfl,rfl,qx _,hc,hm,qx _,M,Z',HM,D',HOK,u',HO,uK⟩
   case round=>
    clear D' u' HO uK;obtain⟨a,E,m,c2,f,Ar,y,lr,o,rfl,rfl,hnrl,hnr,hcr,hf,hm21,HLR,HACC,D',HRO,u',HO,uK⟩:=hrel;by_cases hz:a=0
    ·subst hz
     have hlr:lr=[]:=xq.1 HLR.out;have HF:G (o=R):=by
      have h:=D'.out;rw [hlr] at h;rw [Hid];cases f with
      |zero=>simpa [Xo] using h
      |succ f=>simpa [Xo] using h
     clear D' hlr
     go_wp2_with fail;go_ret;rw [<-HF.out,HACC.out];exact⟨y,c2,rfl,HO.out,uK.out⟩
    ·have hz':(0:V)<(a:V):=M
     have hnr0: ¬(a:V)<=0:=M;obtain⟨f,rfl⟩: ∃f',f=f'+1:=⟨f-1,M⟩;obtain⟨r,t,rfl⟩: ∃r t,lr=r::t:=by
      cases lr with
      |nil=>exact absurd HLR.symm (by simpa using hz)
      |cons r t=>exact⟨r,t,rfl⟩
     have N':=D'.out;unfold Xo at N';have hlv:=(HRO.out r (qo ..)).2.1;obtain⟨q,p'⟩: ∃q,q=Ya r.level t:=⟨_,rfl⟩;have hal1:q<=U t:=by rw [p'];exact BG _ _
     have htl:U t+1=a:=HLR.out;obtain⟨g,hAd,hadb,-,y1,-,-⟩:=ZH u' 0 s8;subst hAd;have y1':i' wr ⟨g.block,g.off+1,none⟩=J (gR (r.level:V)):=by
      have e:g.add (0*4)=g:=by unfold Addr.add;simp
      rw [e] at y1;exact y1
     have hrl:G (∀n,1<=n->n<=q-> ∃u:O,i' wr ⟨(g.add (n*4)).block,(g.add (n*4)).off+1,none⟩=J (gR (u:V))/\u=r.level):=λn h1 h2=>by
      obtain⟨ad2,e2,-,-,z1,-,-⟩:=ZH u' n (by rw [qf];omega)
      have e3:ad2=g:=(zy e2).symm;rw [e3] at z1;obtain⟨j,rfl⟩: ∃j,n=j+1:=⟨n-1,M⟩;have hj:j<U t:=M;have hal2:=(dH r.level t j hj (by rw [<-p'];omega)).2 (by rw [<-p'];omega)
      exact⟨t[j].level,z1,hal2⟩
     have hrn0:G (q+1<a-> ∃u:O,i' wr ⟨(g.add ((q+1)*4)).block,(g.add ((q+1)*4)).off+1,none⟩=J (gR (u:V))/\u≠r.level):=λh1=>by
      obtain⟨ad2,e2,-,-,z1,-,-⟩:=ZH u' (q+1) (by rw [qf];omega)
      have e3:ad2=g:=(zy e2).symm;rw [e3] at z1;have hj:q<U t:=M;have hal2:=dH r.level t q hj (by rw [<-p'];exact qx _)
      refine⟨t[q].level,z1,λe=> ?_⟩;have:=hal2.1 e;rw [<-p'] at this;omega
     have hrn1:=hrn0.out;rw [<-p'] at N';obtain⟨iv,Q'⟩: ∃iv,iv=q+1:=⟨_,rfl⟩;rw [<-Q'] at N' hrn1;have hrn:=T hrn1;clear hrn0 hrn1;have hdrop:(r::t).drop (q+1)=t.drop q:=rfl;have hd2:G (U (t.drop q)=a-iv):=by rw [Hid,qI];omega
     have HRO2:G (∀x∈t.drop q,Yj x):=λx hx=>HRO.out x (qM _ (Q1 hx));have HRD2:G (∀W',E' W' B 4 (some g) a (ji (r::t))->E' W' B 4 (xo (some g) E iv 4) (a-iv) (ji (t.drop q))):=λW' h=>by rw [<-hdrop,Q'];exact h.MG M hnr
     have hcut:=λW (n:O) (hn:n=iv)=>jI (P:=prog) 24 45 j0 4 QL hj jz1 (some g) a E n .i64 (by rw [hn,Q'];omega) W
     replace hcut:=T hcut;generalize t.drop q=Y' at*
     have cL:=λW=>T (vW iv W M);have hnl3:=(jn iv).2;generalize kD iv=Q at*
     have hb8:G ([B8 (UInt8.ofNat r.level)]=[gR (r.level:V)]):=by
      rw [Hid];show [Value.int .u8 ((UInt8.ofNat r.level).toNat:V)]=_;rw [zS,jk M]
     generalize UInt8.ofNat r.level=N at*
     have HRD0:=u';generalize ji (r::t)=RC at*
     generalize r.level=ln at*
     replace p':=T p';replace hal1:=T hal1;replace htl:=T htl;replace Q':=T Q';have hale:q+1<=a:=by have:=hal1.out;have:=htl.out;omega
     replace N':=T N';obtain⟨w5,hw5⟩: ∃w',w'=wr:=⟨_,rfl⟩;subst hw5;clear D' HRO u' y1 hdrop
     go_wp2_with fail;go_loopw [7] (λv7 wr=> ∃n:O,v7=(n:la)/\1<=n/\n<=q+1/\G (Dr w5 wr)) (λv7 _=>q+1-(intOf v7).toNat)
     case atStart=>exact⟨1,rfl,qx _,M,Dr.refl _⟩
     case round=>
      obtain⟨n,rfl,h1n,hnal,HD⟩:=hrel;have hn0:(0:V)<=(n:V):=M;have x0:i' wr ⟨g.block,g.off+1,none⟩=J (gR (ln:V)):=by
       obtain⟨mm,rfl⟩:=HD.out;exact y1'
      by_cases hnn:n<=q
      ·obtain⟨u,hlc,hle⟩:=hrl.out n h1n hnn
       subst hle;have x1:i' wr ⟨(g.add (n*4)).block,(g.add (n*4)).off+1,none⟩=J (gR (u:V)):=by
        obtain⟨mm,rfl⟩:=HD.out;exact hlc
       have g1:decide ((n:V)<(a:V))=true:=qw M;have g2:decide (n<a)=true:=qw M;have g3:(n:V)<(a:V):=M;have g4:n<a:=M
       go_wp2_with fail;go_quiet (fail)
       go_wp2_with fail;have M':G (Dr w5 (wr.drewN nq)):=HD.drewN nq;go_roundw
       case rel=>exact⟨n+1,by first|rfl|simp,M,M,M'⟩
       case measure=>simp [intOf];omega
      ·have cK:=Q'
       obtain rfl:n=iv:=by have:=Q'.out;omega
       by_cases hNN:n<a
       focus
        obtain⟨u,hlc,hle⟩:=hrn.out hNN
        have x1:i' wr ⟨(g.add (n*4)).block,(g.add (n*4)).off+1,none⟩=J (gR (u:V)):=by
         obtain⟨mm,rfl⟩:=HD.out;exact hlc
        have g1:decide ((n:V)<(a:V))=true:=qw M;have g2:decide (n<a)=true:=qw M;have g3:(n:V)<(a:V):=M;have g5:((u:V)==(ln:V))=false:=SZ;have g6: ¬(u:V)=(ln:V):=M
        go_wp2_with fail;go_quiet (fail)
        have M':G (Dr w5 (wr.drewN nq)):=HD.drewN nq;clear x1 hlc hle g5 g6 g1 g2 g3
       rotate_left
       focus
        have g1:decide ((n:V)<(a:V))=false:=qc M
        have g2:decide (n<a)=false:=qc M;have g3: ¬(n:V)<(a:V):=M
        go_wp2_with fail;go_quiet (fail)
        have M':G (Dr w5 (wr.drewN nq)):=HD.drewN nq;clear g1 g2 g3
       all_goals
        generalize wr.drewN nq=C at*
        have K:=M';have x0d:i' C ⟨g.block,g.off+1,none⟩=J (gR (ln:V)):=by
         obtain⟨mm,I'⟩:=K.out;rw [I'];exact y1'
        have m':=T (qG HO (K.below _));have X:=T (uK.trans (K.below _));have HRd:=T (HRD2.out C (by obtain⟨mm,I'⟩:=K.out;rw [I'];exact HRD0.drewN mm))
        have hh:G ((w:O)<=(C:O)):=X.size;have hcut2:=λW=>hcut.out W n rfl;have X':m+1<=maxLen:=SJ;have N9:(m+1)*1<=140737488355328:=M;have hN0:(0:V)<=(n:V):=M;have hNr:(n:V)<=(a:V):=by have:=cK.out;omega
        have hNc:(n:V)<=(E:V):=by have:=cK.out;omega
        have wN:IntKind.u64.wrap (n:V)=(n:V):=by have:=cK.out;rw [qS];omega
        unfold jQ at cL;clear HD M' hrl hrn x0 K
        go_wp2_with (at_builtin;refine qF _ rfl (.tmp 46) (.tmp 51) 30 rfl w 5 i0 (gR 0) 1 1 qu hi J' P' O' rfl M y m c2 _ rfl (m'.alloc _) ((C:O)+1) C 1 1 [gR (ln:V)] rfl (zU _ _ _) (IB rfl) X' N9 (qv hh s8) ?_;intro A7 c7 w7 ck OX hs7;have iL:=T (zG (X.alloc X.size (Y #[gR (ln:V)] 5)) OX (m'.alloc _) (qv hh s8));have s:qE (K' y) (C (Y #[gR (ln:V)] 5)) w7:=(qE.refl _ _).grown OX (λk i=> .inl i);replace ck:=T ck;replace s:=T s;clear OX hs7)
        have ih: ∀k∈K' y,(w:O)<=k:=λk i=>(zj m' k i).1;have HR7:G (E' w7 B 4 (xo (some g) E n 4) (a-n) (ji Y')):=(HRd.below (((qZ B C).alloc (qv D hh) _))).below (s.below (λk i=>qv D (ih k i)) (qv D (qv hh s8)));have HO7:G (xp w7 w 5 1 (Z A7 (m+1) c7) (m+1) ((o++[N]).map B8)):=by
         have:=ck.out;rw [<-hb8.out] at this;rw [Hid,qg];exact this
        clear ih m' X HRd s ck hh X' N9 x0d;refine(cL _).out.mono ?_;rintro e w8 ⟨A8,c8,rfl,L⟩;have d':=T (qG HO7 L.2);have N6:=T (iL.trans (L.2.mono iL.size));have HR8:=T (HR7.below (L.2.mono (qv D iL.size)));have U':=T L.reads;have z':G ((w:O)<=(w8:O)):=N6.size;obtain⟨b,v⟩: ∃b,b=U Q:=⟨_,rfl⟩;have hl10:b<=10:=by rw [v];exact hnl3
        rw [<-v] at U'⊢;replace v:=T v;have hm3:m+1+b<=maxLen:=SJ;have hm4:(m+1+b)*1<=140737488355328:=M;clear cL L HO7 iL HR7
        go_wp2_with (at_builtin;refine qF _ rfl (.tmp 52) (.tmp 55) 30 rfl w 5 i0 (gR 0) 1 1 qu hi J' P' O' rfl M A7 (m+1) c7 _ rfl d' w8 A8 b c8 _ rfl U' (YR _) hm3 hm4 z' ?_;intro A9 c9 w9 cY S' hs9;have HW9:=T (zG N6 S' d' z');have s:qE (K' A7) w8 w9:=(qE.refl _ _).grown S' (λk i=> .inl i);replace cY:=T cY;replace s:=T s;clear S' hs9)
        have ih: ∀k∈K' A7,(w:O)<=k:=λk i=>(zj d' k i).1;have HR9:=T (HR8.below (s.below (λk i=>qv D (ih k i)) (qv D z')));have HO9:G (xp w9 w 5 1 (Z A9 (m+1+b) c9) (m+1+b) ((o++[N]++Q).map B8)):=by rw [Hid,qg];exact cY.out
        have hac:G (U (o++[N]++Q)=m+1+b):=by rw [Hid,qK,qK,HACC.out,v.out];rfl
        have HRR9:G (o++[N]++Q++Xo f Y'=R):=by rw [Hid,<-N'.out];simp
        have hn1:1<=n:=by have:=cK.out;omega
        clear ih d' N6 HR8 U' s cY cK;go_roundw
        case rel=>exact⟨a-n,E-n,m+1+b,c9,f,xo (some g) E n 4,A9,Y',o++[N]++Q,by first|rfl|simp,by first|rfl|simp,M,M,M,M,M,hd2,hac,HRR9,HRO2,HR9,HO9,HW9⟩
        case measure=>simp [Y8];omega
end Go.Proofs.YtfnlfpcfkbdcmaaGreatDoor
