import Derived.Test.YtfnlfpcfkbdcmaaGreatDoorT21
import Derived.Test.YtfnlfpcfkbdcmaaGreatDoorT22
import Derived.Test.YtfnlfpcfkbdcmaaGreatDoorT23
set_option linter.unusedSimpArgs false
set_option linter.unusedVariables false
set_option maxRecDepth 100000
set_option maxHeartbeats 0
open Go.Proofs.Tryz
namespace Go.Proofs.YtfnlfpcfkbdcmaaGreatDoor
open Go.RowKit
variable {a b c i n x:O}
theorem uA (b:qn):(hH b).2.1.length<=32768:=by
 unfold hH;split
 ·exact qp _
 ·show(H9 b).length<=_;unfold H9;split
  ·exact qp _
  ·exact Bd (gV b).1 (Tv b)
def Bg (W:I) (k f:O) (h:la) (g:V) (j:Bool) (i n:O) (A:q') (N cap:O) (b:qn) (r:V×S JH×Cu) (e:Ending) (a:I):Prop:=
 ∃d c,e=t' (BA #[Z d (U r.2.1) c,e' r.1])/\xp a W 45 4 (Z d (U r.2.1) c) (U r.2.1) (ji r.2.1)/\OR a k f h g j i n A N cap b r.2.2/\qE [f] W a
theorem CW (W:I) (g o:O) (n:q') (d B:O) (bk:V) (pl:Bool) (rc nb:O) (A:q') (N cap:O) (b:qn) (c:Cu) (ht:Pl W) (h:OR W g o (Z n N d) bk pl rc nb A N cap b c) (X:E' W B 1 n N (b.map B8)) (iv:B<=(W:O)) (hN:N<=100000000) (P':N<=d) (hcm:d<=maxLen):
  xG 111 #[mJ g] W (Bg W g o (Z n N d) bk pl rc nb A N cap b (Vd b c)):=by
 have H:=T h;obtain⟨R,a⟩:=zn (Vd b c);rw [<-a];unfold Vd at a;dsimp only at a;have uK:=h.cur.len;have G':=h.cur.le;have w:U (b.drop c.at_)=N-c.at_:=by rw [qI,uK]
 obtain⟨i0,hi,N6,d',Q'⟩:=qA QB;have hcut:=jI _ 5 _ 1 qu hi d' n N d _ .i64 G';have j:=DK _ (d-c.at_) B _ W.drew (λi hi=>ht i hi) (by rw [w];exact(X.VC G' P').drew) iv (by rw [w];omega) (by rw [w];omega) M;rw [w] at j;replace j:=T j;have KA:=T (JJ _ o A N _ b c h.drew.cur);have OX:=uA (b.drop c.at_);have D:=T (λW k (h:Lr W o A N cap b c)=>Qs W o A N _ b c k h);unfold X1 at D;unfold Bf at j;generalize hH (b.drop c.at_)=r at*;obtain⟨E,v,cL⟩:=r;dsimp only at a j OX;have q0:=h.c0;have q1:i' W ⟨g,1,none⟩=J (Z n N d):=h.cell 1;have p':=T h.blk.lt;generalize cB:c.at_=k at*;replace a:=T a;clear h ht X hi N6 d' Q' w;go_in;go_wp2_with fail;refine zv 18 (λW=>i' W g=J (mJ o)/\i' W ⟨g,1,none⟩=J (Z n N d)) AL ⟨q0,q1⟩ (λC=> ?_);refine zq [0,1,2,3,4,5] (a':= ?_) ?_;refine zq [6,7] (a':= ?_) ?_;refine vf 8 KA ?_;rintro e w' ⟨rfl,rfl⟩;refine⟨_,rfl,(C),λC=> ?_⟩;refine zq [9] (a':= ?_) ?_;refine vf 10 j ?_;rintro e P ⟨A1,c1,rfl,s⟩;refine⟨_,rfl,(⟨(s.2.cell (p:= g) p').trans q0,(s.2.cell (p:=⟨g,1,none⟩) p').trans q1⟩),λC=> ?_⟩;refine zq [11,12,13,14,15,16,17] (a':= ?_) ?_;refine zV AL ?_ _;have t:=T (H.drew.fresh s.2);have cK:=T ((qZ (W:O) W).drew.trans s.2);have hh:=T s.1;have M':=T H.cur.blk.lt;have N9:=t.c0;clear s C q0 q1 hcut;by_cases ln:E=0
 case neg=>
  have m:=T (a.out.trans (qk ln));have I':(E !=0)=true:=by simpa using ln
  go_wp2;go_ret2;unfold Bg;rw [m.out];exact⟨_,0,rfl,qP _ _ _ _,t,qE.jq cK⟩
 subst ln;have f:=a.out;rw [qJ s8] at f;have z':=T (D _ (cL:V) t.cur);generalize (jW b (cL:V) c).1=ys,(jW b (cL:V) c).2=c2 at*;have F:=T (λW A c B h iv=>UE true A v c B v W h iv M);unfold gZ at F;generalize sc true v=l at*;obtain⟨y,l⟩:=l;dsimp only at f F;replace f:=T f;go_wp2_with fail;refine z'.mono ?_;rintro e u ⟨A2,X',rfl,D',z,-⟩;have cY:=T (t.step D' z);have Q:=T ((qE.jq cK).then z);have u':=T (E'.zY (z.own hh (λk hk J'=>by have:=(zj hh k hk).1;have e:(W.drew:O)=(W:O):=rfl;rw [qy.1 J'] at this;have:=M'.out;omega)));have m':=T (F u A1 c1 u u' (qx _));clear D' z N9;go_wp2_with fail;refine m'.mono ?_;rintro e w3 ⟨A3,c3,rfl,iL,K⟩;have qj:=T (cY.fresh K);have L:=T (Q.fresh K);have O':=T (qi iL Q.size);clear iL K;by_cases ih:y=0
 focus
  subst ih;have x:=f.out;rw [qJ s8] at x;by_cases q:l=[]
  focus
   have m:=T (x.trans (qk q));subst q;clear x
  rotate_left
  ·have m:=T (x.trans (qJ q));have Z': ¬U l=0:=λe=>q (xq.1 e);have U':((U l:V)==0)=false:=by simp;exact q
   clear x q;go_wp2;go_ret2;unfold Bg;rw [m.out];exact⟨_,_,rfl,O',qj,L⟩
 rotate_left
 focus
  have m:=T (f.out.trans (qk ih));have N':(y==0)=false:=by simpa using ih
  have I':(y !=0)=true:=by simpa using ih
 all_goals
  go_wp2;go_ret2;unfold Bg;rw [m.out];exact⟨none,0,rfl,qP _ _ _ _,qj,L⟩
theorem pO (b:qn) (d:Bool): ∀(f:O) (c:Cu) (a:S JH),(ri b d f c a).2.length<=U a+f
 |0,c,a=>qx _
 |f+1,c,a=>by
  unfold ri;split
  ·show U a<=_;omega
  ·split
   ·exact qp _
   ·have:=pO b d f (CL b d c).2 (a++[(CL b d c).1])
    rw [qK,zJ] at this;omega
theorem TQ (b:qn) (c:Cu):(Vd b c).2.1.length<=32768:=by
 unfold Vd;dsimp only;split
 ·exact qp _
 ·split
  ·exact qp _
  ·split
   ·exact qp _
   ·have h1:=uA (b.drop c.at_);have h2:=pO (hH (b.drop c.at_)).2.1 true (hH (b.drop c.at_)).2.1.length ⟨0,0⟩ [];show(ri _ true _ _ _).2.length<=_;simp only [zF] at h2;omega
def gg (W:I) (k f:O) (h:la) (g:V) (j:Bool) (i n:O) (A:q') (N cap:O) (b:qn) (r:V×S JH) (e:Ending) (a:I):Prop:=
 ∃d c c2,e=t' (BA #[Z d r.2 c,e' r.1])/\xp a W 45 4 (Z d r.2 c) r.2 (ji r.2)/\OR a k f h g j i n A N cap b c2/\qE [f] W a
theorem TZ (W:I) (D F:O) (ck:q') (uK B:O) (bk:V) (pl:Bool) (j a:O) (A:q') (N cap:O) (b:qn) (c:Cu) (ht:Pl W) (hgl:0<B) (h:OR W D F (Z ck N uK) bk pl j a A N cap b c) (hr:E' W B 1 ck N (b.map B8)) (X:B<=(W:O)) (X':B<=F) (hN:N<=100000000) (hcs:N<=uK) (hcm:uK<=maxLen) (hnb:a<=20000):
  xG 78 #[mJ D] W (gg W D F (Z ck N uK) bk pl j a A N cap b (PN b j a c [])):=by
 have H:=T h;have HT:=T ht;have HR:=T hr;have HG:=T X';have HGL:=T hgl;obtain⟨K,iL⟩:=zn (PN b j a c []);rw [<-iL];replace iL:G (PN b j a c []=K):=iL.symm;have hbN:G (U b=N):=h.cur.len;obtain⟨i0,hi,I',N',N9⟩:=xt PH;have KX:=T (λW c h ht hr X=>CW W D F ck uK B bk pl j a A N cap b c ht h hr X hN hcs hcm);have q9:i' W ⟨D,9,none⟩=J (a:la):=h.cell 9;have U':=T h.cur.blk.lt;have hgoW:=T h.blk.lt;have hfAW:G (∀k∈K' A,k<(W:O)):=λk d=>(zj h.cur.own k d).2;clear h ht hr X' hgl;go_wp2;go_loopw [4,12] (λv4 P' wr=> ∃(i f m cK:O) (o:Cu) (q:S JH) (ln:q'),v4=Z ln m cK/\P'=(i:la)/\i<=a/\m<=32768*i/\G (m=U q)/\G (i+f=a)/\G (PN b j f o q=K)/\G (OR wr D F (Z ck N uK) bk pl j a A N cap b o)/\G (xp wr (W:O) 45 4 (Z ln m cK) m (ji q))/\G (qE [F] W wr)) (λ_ P' _=>a-(intOf P').toNat)
 ·exact⟨0,a,0,0,c,[],none,rfl,rfl,qp _,qx _,rfl,by rw [Hid];omega,iL,H,qP _ _ _ _,qE.refl _ _⟩
 ·clear q9;obtain⟨i,f,m,cK,o,q,ln,rfl,rfl,hin,hm,cL,HF,cY,s,R,w⟩:=hrel;by_cases hlt:i<a
  ·have hlt':=j' i a;obtain⟨f,rfl⟩: ∃f',f=f'+1:=⟨f-1,by have:=HF.out;omega⟩;have O':r' B W wr:=w.below (λk d=>by rw [qy.1 d];exact HG) X;have KB:=T (KX wr o s (HT.below O' HGL) (HR.below O') (qv X w.size));have Q':=TQ b o;have g:=cY.out;unfold PN at g;unfold Bg at KB;generalize Vd b o=r at*;obtain⟨E,l,c2⟩:=r;dsimp only at g KB Q';replace g:=T g;clear cY O';go_wp2_with fail;refine KB.mono ?_;rintro e C ⟨A1,c1,rfl,ho1,hO1,m'⟩;have n:=T hO1;have D':=T (w.then m');have hh:=T (m'.own R (λk d J'=>by have:=(zj R k d).1;rw [qy.1 J'] at this;have:=U'.out;omega));have M':=T (E'.zY ho1);clear ho1 hO1 m' s w R;by_cases hE:E=0
   case neg=>
    have z:G (K=(E,[])):=by rw [Hid,<-g.out,qk hE]
    have hEz:(E==0)=false:=by simpa using hE
    have hEn:(E !=0)=true:=by simpa using hE
    go_wp2;go_ret2;unfold gg;rw [z.out];exact⟨none,0,c2,rfl,qP _ _ _ _,n,D'⟩
   subst hE;have v:=g.out;rw [qJ s8] at v;replace v:=T v;obtain⟨y,u'⟩:=zn (U l);rw [<-u'] at M' Q'⊢;replace u':=T u';have m':m+y<=maxLen:=SJ;have hm2:(m+y)*48<=140737488355328:=M;have hszn:G ((W:O)<=(C:O)):=D'.size;have G': ∀u∈ji l,u.oneCell'=true:=λu hu=>by
    unfold ji at hu;obtain⟨x,hx,hux⟩:=List.mem_flatten.1 hu;obtain⟨t,-,rfl⟩:=jB.1 hx;exact tS t u hux
   replace G':=T G';go_wp2_with (at_builtin;refine qF _ rfl (.tmp 22) (.tmp 23) 24 rfl (W:O) 45 i0 (.agg #[.int .u64 0,gR 0, .string "".toUTF8, .string "".toUTF8]) 4 48 QL hi I' N' N9 rfl M ln m cK _ rfl hh C A1 y c1 _ rfl M' G' m' hm2 hszn ?_;intro A4 c4 w4 z' hg4 _hs4;have qj:qE (K' ln) C w4:=(qE.refl _ _).grown hg4 (λk d=> .inl d);replace z':=T z';replace qj:=T qj;clear hg4 _hs4);have d': ∀k∈K' ln,(W:O)<=k:=λk d=>(zj hh k d).1;have HO4:G (OR w4 D F (Z ck N uK) bk pl j a A N cap b c2):=⟨qj.blk n.blk (λd=>by have:=d' _ d;have:=hgoW.out;omega),n.cur.jZ qj (λd=>by have:=d' _ d;have:=U'.out;omega) (λk d J'=>by have:=d' _ J';have:=hfAW k d;omega),n.ne⟩;have HMD4:G (qE [F] W w4):=D'.trans qj (λk d=> .inr (d' k d));have HW4:G (xp w4 (W:O) 45 4 (Z A4 (m+y) c4) (m+y) (ji (q++l))):=by rw [Hid,pR];exact z'.out
   have hM2:G (m+y=U (q++l)):=by rw [Hid,qK,cL.out,u'.out]
   have hF2:G (i+1+f=a):=by have:=HF.out;rw [Hid];omega
   clear d';refine xk ?_;exact⟨i+1,f,m+y,c4,c2,q++l,A4,xg,xg,M,M,hM2,hF2,v,HO4,HW4,HMD4⟩
  ·obtain rfl:i=a:=M;obtain rfl:f=0:=by have:=HF.out;omega
   have g:=cY.out;unfold PN at g;rw [hbN.out,<-cL.out] at g;have ih:=T (pb wr F A N cap b o s.cur);have q0:=s.c0;have hle:=s.cur.le;obtain⟨L,iv⟩:=zn (N-o.at_);rw [<-iv] at ih;replace iv:=T iv;by_cases Y':o.at_<N
   focus
    have z:G (K=(2,[])):=by rw [Hid,<-g,qk (.inl Y')]
    have OX:(0:V)<(L:V):=by have:=iv.out;omega
    clear cY g
   rotate_left
   focus
    have OX: ¬(0:V)<(L:V):=by have:=iv.out;omega
    have hL00:L=0:=by have:=iv.out;omega
    rw [hL00] at ih;by_cases N6:m=j
    focus
     have v:=g;rw [qJ (λh=>h.elim Y' λh=>h N6)] at v;have hmr1:((m:V) !=(j:V))=false:=SZ;have KC:=T (λ(W:I)h X=>JW ln cK (W:O) q W h X (by have:=cL.out;omega));rw [<-cL.out] at KC;clear cY g OX
    rotate_left
    focus
     have z:G (K=(2,[])):=by rw [Hid,<-g,qk (.inr N6)]
     have hmr1:((m:V) !=(j:V))=true:=SZ;have hmr2: ¬(m:V)=(j:V):=M;clear cY g OX
    rotate_left
   rotate_left 2
   all_goals
    go_wp2_with fail;refine zC ih ?_;intro C p;have n:=T (s.fresh (p.below _));have P:=T (w.fresh (p.below _))
   focus clear p s w
   rotate_left
   ·have hh:=T (qG R (p.below _));have Z':=T (KC C (E'.zY hh) (qx _));have q8:i' C ⟨D,8,none⟩=J (j:la):=n.cell 8;clear p s w q0 R;subst N6;go_wp2_with fail;refine zC Z' ?_;intro w2 p';have S':=T (n.fresh p');have HM2:=T (P.fresh p');have HW2:=T (qG hh p');clear p';by_cases Q:kF q=0
    ·have z:G (K=(0,q)):=by rw [Hid,<-v,qJ (by simpa using Q)]
     rw [Q];clear v Q;go_wp2;go_ret2;unfold gg;rw [z.out];exact⟨ln,cK,o,by rw [<-cL.out];rfl,by rw [<-cL.out];exact HW2,S',HM2⟩
    ·have z:G (K=(6,[])):=by rw [Hid,<-v,qk (by simpa using Q)]
     have h6:kF q=6:=by
      revert Q;unfold kF;split<;>simp
     rw [h6];clear v Q h6;go_wp2;go_ret2;unfold gg;rw [z.out];exact⟨none,0,o,rfl,qP _ _ _ _,S',HM2⟩
   focus have q8:i' C ⟨D,8,none⟩=J (j:la):=n.cell 8;clear p s w q0 R
   all_goals
    go_wp2;go_ret2;unfold gg;rw [z.out];exact⟨none,0,o,rfl,qP _ _ _ _,n,P⟩
theorem vg {a:Func} {p s r q:Tmp} {b:TypeId} (h:a.results= #[.cell p b, .tmp s, .tmp r, .tmp q]) (tmps:Array la) (w:I) (g:O) (c:Array la) (v u x:la)
  (l:tmps.getD p undef=mJ g) (j:tmps.getD s undef=v) (d:tmps.getD r undef=u) (i:tmps.getD q undef=x) (e:(loadVar b g).run prog w= .ok (.agg c) w):
  (results a tmps).run prog w= .ok (BA #[.agg c,v,u,x]) w:=by
 have m:tmps[p]?.getD undef=mJ g:=by simpa using l
 have k:tmps[s]?.getD undef=v:=by simpa using j
 have f:tmps[r]?.getD undef=u:=by simpa using d
 have n:tmps[q]?.getD undef=x:=by simpa using i
 simp [results,h,m,k,f,n,asAddr,e]
theorem jh:(prog.info? 23).map (·.size)=some 6:=AL
def Ld (o:Lx):Array Value:= #[o.blk, .bool o.plain,o.bkt,o.data,o.par,o.chunk]
theorem yy (o:Lx):(Ld o).all (·.oneCell')=true:=by simp [Ld,Value.oneCell']
def LO:Lx:=⟨0,false,0,0,0,0⟩
def P_ (W:I) (r:V×Lx×S JH×O) (e:Ending) (b:I):Prop:=
 ∃c a,e=t' (BA #[.agg (Ld r.2.1),Z c (U r.2.2.1) a,(r.2.2.2:V),e' r.1])/\xp b W 45 4 (Z c (U r.2.2.1) a) (U r.2.2.1) (ji r.2.2.1)/\r' W W b
theorem pI {W w:I} {A:q'} {m:O} {g:O} {b:S la} {f:Array la} (h:xp w W 45 4 (Z A m c) m b) (d:F' w g 23 f) (a:Array la):xp (w.setRow g a) W 45 4 (Z A m c) m b:=
 (Js w g a).own h (λk e=>by rw [qy];exact qT h d FV k e)
theorem Cs (b:qn):(ph b).2.2.2.1<=20000/\(ph b).2.1=⟨(ph b).2.1.blk,(ph b).2.1.plain,0,0,0,0⟩:=by
 refine⟨?_,rfl⟩;have key: ∀(m:V) (c:Cu),0<=m->((jU b m c).1:V)<=m:=λm c a=>by
  unfold jU;dsimp only;split
  ·exact a
  ·exact Yi _ m a
 unfold ph;dsimp only;have h2:=key ((jU b 20000 (if 1<(j_ b (jU b 32768 ⟨0,0⟩).2).1.toNat then vP (j_ b (jU b 32768 ⟨0,0⟩).2).2 2 else(j_ b (jU b 32768 ⟨0,0⟩).2).2)).1:O) (jU b 20000 (if 1<(j_ b (jU b 32768 ⟨0,0⟩).2).1.toNat then vP (j_ b (jU b 32768 ⟨0,0⟩).2).2 2 else(j_ b (jU b 32768 ⟨0,0⟩).2).2)).2 M;have h1:=key 20000 (if 1<(j_ b (jU b 32768 ⟨0,0⟩).2).1.toNat then vP (j_ b (jU b 32768 ⟨0,0⟩).2).2 2 else(j_ b (jU b 32768 ⟨0,0⟩).2).2) M;omega
theorem Gn (A:Option Addr) (n c:O) (b:S AB) (W:I) (ht:Pl W) (h:E' W (W:O) 1 A n (b.map B8)) (hc:n<=c) (hm:c<=maxLen) (hn:n<=100000000):
  xG 44 #[Z A n c] W (P_ W (JZ b)):=by
 obtain⟨R,a⟩: ∃R,R=JZ b:=⟨_,rfl⟩;rw [<-a];unfold JZ at a;dsimp only at a;have L:r' (W:O) W (W (Y #[(), .bool false,(),(),(),()] 23)):=(qZ _ _).alloc (qx _) _;have Q:=T (Cw A n c b (W (Y #[(), .bool false,(),(),(),()] 23)) (ht.below L ht.pos) ((h.below L).more s8) hc hm M);have m':G (F' (W (Y #[(), .bool false,(),(),(),()] 23)) (W:O) 23 (Ld LO)):=F'.new _ _ _;have ck:=T ht;have cY:=T L;have hbn:U b=n:=h.len;have hwl:(kj b).2.length<=n:=by
  have hc:U (vR b)<=U b:=by
   unfold vR;split
   ·exact qp _
   ·split
    ·rw [qh];omega
    ·exact qp _
  unfold kj;split
  ·exact qp _
  ·split
   ·exact qp _
   ·split
    ·exact qp _
    ·split
     ·exact qp _
     ·show((vR b).drop 5).length<=n
      rw [qI];omega
 unfold gU at Q;generalize kj b=wh at*
 obtain⟨ln,rest⟩:=wh;dsimp only at a Q hwl;clear ht h L hbn;go_enter func44,ntmps44;replace a:=T a
 go_wp2_with fail;generalize W (Y #[(), .bool false,(),(),(),()] 23)=w0 at*
 refine Q.mono ?_;rintro e q ⟨E,c1,rfl,O',N9,D',hB⟩;have D:=T (m'.below hB m'.lt);have ih:=T (cY.trans (hB.mono cY.size));have G':=T O';have J':=T (show U rest<=c1/\c1<=maxLen from⟨N9,D'⟩)
 clear Q hB m' cY O' N9 D';replace a:=a.out;by_cases hh:ln=0
 case neg=>
  have u:G (R=(ln,LO,[],0)):=by rw [Hid,a,qk hh];rfl
  have OX:(ln==0)=false:=by simpa using hh
  have z':(ln !=0)=true:=by simpa using hh
  clear a
  go_wp2_with (first|(refine qC rfl 23 _ _ rfl (W:O) (Ld LO) rfl rfl 23 (Ld LO) D.out jh rfl (yy _) ?_))
  refine qW (vg rfl _ _ (W:O) (Ld LO) (Z none 0 0) () ln rfl rfl rfl rfl (qN _ (W:O) 23 _ (Ld LO) (0,0) _ (D.row _) jK rfl jh)) rfl ?_;unfold P_;rw [u.out];exact⟨none,0,rfl,qP _ _ _ _,zu ih (qx _) _⟩
 subst hh;rw [qJ s8] at a;have X':=Cs rest;have cL:=T (λW d m bsl A N cap h=>Ew W d m bsl A N cap rest h);unfold BF at cL;generalize ph rest=hd at*
 obtain⟨F,⟨g,j,k0,d0,q0',ch0⟩,rc,C,ch⟩:=hd;dsimp only at a cL X';obtain⟨hnb,hop⟩:=X';injection hop with _ _ hk0 hd0 hq0 hch0
 subst hk0;subst hd0;subst hq0;subst hch0;have KN:=T (Qk E rest c1 q rest q G' (qx _) M);replace a:=T a
 go_wp2_with fail;refine KN.mono ?_;rintro e z ⟨m,Ac,S',rfl,p',I',-,uK⟩;have Z':G (OR (z (Y #[mJ m,Z E rest c1,(), .bool false,(),(),(),(),(),()] 121)) z m (Z E rest c1) 0 false 0 0 Ac rest S' rest ⟨0,0⟩):=⟨F'.new _ _ _,p'.fresh ((qZ _ _).alloc (qx _) _),λe=>by have:=p'.blk.lt;omega⟩
 have u':G (r' q q (z (Y #[mJ m,Z E rest c1,(), .bool false,(),(),(),(),(),()] 121))):=uK.alloc uK.size _;have x:G ((q:O)<=(z:O)/\(q:O)<=m):=⟨uK.size,I'⟩;clear KN p' I' uK;have P':=T (cL.out _ _ _ _ _ _ _ Z');clear cL
 go_wp2_with fail;generalize z (Y #[mJ m,Z E rest c1,(), .bool false,(),(),(),(),(),()] 121)=w3 at*
 generalize (z:O)=d at*
 refine P'.mono ?_;rintro e w4 ⟨rfl,hO4,hM4⟩;have iL:=T hO4;have y:G (r' q q w4):=u'.trans (hM4.below (λk qj=>by
  simp only [qL,xj,Ze] at qj;rcases qj with rfl|rfl
  ·exact x.out.1
  ·exact x.out.2) u'.size)
 have o:=T (D.below y D.lt);have s:=T (ih.trans (y.mono ih.size));clear P' hO4 hM4 Z' u';replace a:=a.out;by_cases cK:F=0
 focus
  subst cK;rw [qJ s8] at a;have P:=T (λW d m As cs B A cap h1 h2 h3 h4 h5 h6 h7 h8=>TZ W d m As cs B g j rc C A rest cap rest ch h1 h2 h3 h4 h5 h6 M h7 h8 hnb);unfold gg at P;generalize PN rest rc C ch []=lg at*
  obtain⟨H,l⟩:=lg;dsimp only at a P;replace a:=T a;have Y':=T (P.out w4 d m E c1 q Ac S' (ck.below s ck.pos) (qB ck.pos ih.size) iL (G'.below y) y.size x.out.2 J'.out.1 J'.out.2);clear P
  go_wp2_with fail;refine Y'.mono ?_;rintro e f ⟨A6,c6,c2,rfl,ho6,M',d'⟩;have r:=T M';have N':=T (qi ho6 s.size);have N6:=d'.blk o (by rw [qy];have:=D.lt;have:=x.out.2;omega)
  have Q':=T (s.trans (d'.below (λk qj=>by rw [qy.1 qj];exact qv ih.size x.out.2) s.size))
  replace o:=T N6;replace s:=Q';clear Y' ho6 M' d' N6 Q' y iL;replace a:=a.out;by_cases iv:H=0
  ·subst iv;have u:G (R=(0,⟨g,j,0,0,0,0⟩,l,C)):=by rw [Hid,a,qJ s8]
   clear a;have cB:i' f ⟨d,2,none⟩=J (g:la):=r.cell 2;have z3:i' f ⟨d,3,none⟩=J (.bool j):=r.cell 3;have z4:i' f ⟨d,4,none⟩=J (e' 0):=r.cell 4;have z5:i' f ⟨d,5,none⟩=J (e' 0):=r.cell 5;have X:i' f ⟨d,6,none⟩=J (e' 0):=r.cell 6;have z7:i' f ⟨d,7,none⟩=J (e' 0):=r.cell 7;have z9:i' f ⟨d,9,none⟩=J (C:la):=r.cell 9;have hgne:G ((W:O)≠d):=by have:=D.lt;have:=x.out.1;rw [Hid];omega
   go_wp2_with fail;refine zv 13 (λW=>i' W ⟨d,2,none⟩=J (g:la)/\i' W ⟨d,3,none⟩=J (.bool j)/\i' W ⟨d,4,none⟩=J (e' 0)/\i' W ⟨d,5,none⟩=J (e' 0)/\i' W ⟨d,6,none⟩=J (e' 0)/\i' W ⟨d,7,none⟩=J (e' 0)/\i' W ⟨d,9,none⟩=J (C:la)) AL ⟨cB,z3,z4,z5,X,z7,z9⟩ (λU'=> ?_)
   refine Z6 [0,1,2] (a':= ?_) ?_;refine zq [3] (a':= ?_) ?_;refine Z6 [4,5,6,7] (a':= ?_) ?_;refine zq [8] (a':= ?_) ?_;refine IA 9 rfl AL SQ (λK hK=> ?_);refine wp_store_row 23 _ _ rfl (W:O) (Ld ⟨g,j,0,0,0,0⟩) rfl rfl 23 (Ld LO) (o.drew) jh rfl (yy _) ?_;have t: ∀(i:O) {v:la},i' f ⟨d,i,none⟩=some v->i' (f.drew.setRow (W:O) (Ld ⟨g,j,0,0,0,0⟩)) ⟨d,i,none⟩=some v:=λi v hv=>(Js f.drew (W:O) _).cell (p:=⟨d,i,none⟩) (by rw [qy];exact λe=>hgne.out e.symm) hv
   refine hK _ _ ⟨t 2 cB,t 3 z3,t 4 z4,t 5 z5,t 6 X,t 7 z7,t 9 z9⟩ (λU'=> ?_);clear hK K;try simp only [Act.put,qQ,qY,qV]
   refine Z6 [10,11,12] (a':= ?_) ?_;refine zV AL ?_ _;have HLF:=T (pI (w:=f.drew) N' o.drew (Ld ⟨g,j,0,0,0,0⟩));have HBF:=T (zu s.drew (qx _) (Ld ⟨g,j,0,0,0,0⟩));have HGF:=T (o.drew.row (Ld ⟨g,j,0,0,0,0⟩));clear U' t cB z3 z4 z5 X z7 z9 r
   go_wp2_with fail;refine qW (vg rfl _ _ (W:O) (Ld ⟨g,j,0,0,0,0⟩) (Z A6 l c6) C () rfl rfl rfl rfl (qN _ (W:O) 23 _ (Ld ⟨g,j,0,0,0,0⟩) (0,0) _ HGF jK rfl jh)) rfl ?_;unfold P_;rw [u.out];exact⟨A6,c6,rfl,HLF.out,HBF.out⟩
  focus
   have u:G (R=(H,LO,[],0)):=by rw [Hid,a,qk iv];rfl
   have OX:(H==0)=false:=by simpa using iv
   have z':(H !=0)=true:=by simpa using iv
   clear a r N'
  rotate_left
 rotate_left
 focus
  have u:G (R=(F,LO,[],0)):=by rw [Hid,a,qk cK];rfl
  have OX:(F==0)=false:=by simpa using cK
  have z':(F !=0)=true:=by simpa using cK
  clear a y iL
 rotate_left
 all_goals
  go_wp2_with (first|(refine qC rfl 23 _ _ rfl (W:O) (Ld LO) rfl rfl 23 (Ld LO) o.out jh rfl (yy _) ?_))
 ·refine qW (vg rfl _ _ (W:O) (Ld LO) (Z none 0 0) () H rfl rfl rfl rfl (qN _ (W:O) 23 _ (Ld LO) (0,0) _ (o.row _) jK rfl jh)) rfl ?_;unfold P_;rw [u.out];exact⟨none,0,rfl,qP _ _ _ _,zu s (qx _) _⟩
 ·refine qW (vg rfl _ _ (W:O) (Ld LO) (Z none 0 0) () F rfl rfl rfl rfl (qN _ (W:O) 23 _ (Ld LO) (0,0) _ (o.row _) jK rfl jh)) rfl ?_;unfold P_;rw [u.out];exact⟨none,0,rfl,qP _ _ _ _,zu s (qx _) _⟩
theorem YN (o:Lx) (w:I):
  xG 58 #[.agg (Ld o)] w λe w'=>e=t' (e' (J8 o))/\r' w w w':=by
 obtain⟨a,b,kk,d,g,i⟩:=o;have h:G (r' w w (w (Y #[a,b,kk,d,g,i] 23))):=j1 _;have c:=λW=>T (JX 2 a kk 0 0 0 b W ⟨M,M⟩);rw [VT 2 a kk 0 0 0 b] at c;have j:G (J8 ⟨a,b,kk,d,g,i⟩=vM 2 ⟨a,b,kk,0,0,0⟩):=rfl;rw [j.out];generalize vM 2 ⟨a,b,kk,0,0,0⟩=E at*;unfold Ld;dsimp only;go_in;go_wp2_with fail;refine zC (c _).out ?_;intro l f;have k:=T (h.trans (f.mono h.size));clear c f;go_wp2;go_ret;exact⟨rfl,k⟩
theorem VX (l:S O) (k uK:O) (h: ∀x∈l,x<=uK):(l.take k).sum<=uK*k:=by
 induction k generalizing l with
 |zero=>simp
 |succ k b=>
  cases l with
  |nil=>simp
  |cons a t=>
   rw [List.take_succ_cons,List.sum_cons,Nat.mul_succ];have h1:=b t (λx c=>h x (qM _ c));have h2:=h a (qo ..);omega
theorem Z8 (A:q') (c B:O) (l:S O) (w:I) (h:E' w B 1 A l (l.map NV)) (o:U l<=100000) (f: ∀x∈l,x<=10000000):
  xG 95 #[Z A l c] w λe w'=>e=t' l.sum/\w=w':=by
 have H:=T h;have j:=T f;clear h f;go_wp2;go_loopw [3,8] (λg d wr=> ∃k s:O,g=(s:la)/\d=(k:la)/\k<=U l/\G (s=(l.take k).sum)/\s<=10000000*k/\wr=w) (λ_ d _=>U l-(intOf d).toNat)
 ·exact⟨0,0,rfl,rfl,qp _,y8,qx _,rfl⟩
 ·obtain⟨k,s,rfl,rfl,p,HS,q,rfl⟩:=hrel;by_cases a:k<U l
  ·have v:(k:V)<(U l:V):=M;obtain⟨t,u,rfl,-,b,n⟩:=H.at_ a;rw [qD,qX a] at b;have r:=j _ (zx a);have i:G (s+l[k]=(l.take (k+1)).sum):=by
    rw [Hid,qs,qX a,QE,<-HS.out];simp
   generalize l[k]=x at*;have m:u=(x:la):=(zy b).symm;subst m;clear b HS;go_wp2_with fail;refine xk ?_;exact⟨k+1,s+x,xh,xg,M,i,M,y'⟩
  ·obtain rfl:k=U l:=M;rw [jP] at HS;go_wp2;go_ret;exact⟨by rw [<-HS.out];rfl,rfl⟩
theorem CO (A:q') (c B v:O) (l:S O) (w:I) (h:E' w B 1 A l (l.map NV)) (C:U l<=1000000000):
  xG 228 #[Z A l c,v] w λe w'=>(∃i:V,e=t' i/\decide (0<=i)=l.contains v)/\w=w':=by
 have H:=T h;clear h;go_in;go_wp2_with fail;go_loopw [8] (λf wr=> ∃k:O,f=(k:la)/\k<=U l/\G ((l.take k).contains v=false)/\wr=w) (λf _=>U l-(intOf f).toNat)
 ·exact⟨0,rfl,qp _,rfl,rfl⟩
 ·obtain⟨k,rfl,D,b,rfl⟩:=hrel;by_cases a:k<U l
  ·have z:(k:V)<(U l:V):=M;have s:=xi k;obtain⟨t,u,rfl,-,d,r⟩:=H.at_ a;rw [qD,qX a] at d;have n:l.take (k+1)=l.take k++[l[k]]:=by rw [qs,qX a];rfl
   have m:G (l[k]=v->l.contains v=true):=λh=>by rw [List.contains_iff_mem,<-h];exact zx a
   have j:G (l[k]≠v->(l.take (k+1)).contains v=false):=λh=>by
    rw [n];have h1:=b.out;simp only [List.contains_eq_mem,zW,zt,qy,not_or] at h1⊢;exact⟨h1,λe=>h e.symm⟩
   generalize l[k]=x at*;have p:u=(x:la):=(zy d).symm;subst p;clear d n b;by_cases g:x=v
   ·have q:=T (m g);subst g;clear m j;go_wp2_with fail;go_ret;exact⟨⟨(k:V),rfl,by rw [q.out];exact qw M⟩,rfl⟩
   ·have y:((v:V)==(x:V))=false:=SZ;have o:=T (j g);clear m j;go_wp2_with fail;refine xk ?_;exact⟨k+1,xg,M,o,y'⟩
  ·obtain rfl:k=U l:=M;rw [jP] at b;go_wp2_with fail;go_ret;exact⟨⟨-1,rfl,by rw [b.out];rfl⟩,rfl⟩
theorem py (A:q') (c B v:O) (l:S O) (w:I) (h:E' w B 1 A l (l.map NV)) (d:U l<=1000000000):
  xG 195 #[Z A l c,v] w λe w'=>e=t' (.bool (l.contains v))/\w=w':=by
 have a:=T (CO A c B v l w h d);generalize l.contains v=b,U l=n at*;clear h d;go_in;go_wp2_with fail;refine a.mono ?_;rintro e g ⟨⟨i,rfl,hi⟩,rfl⟩;have f:=T hi;clear hi;go_wp2;go_ret;exact⟨by rw [<-f.out];rfl,rfl⟩
theorem LF (h1:a<=x) (h2:x<=20000):a-b<9223372036854775808:=vQ (qv (Qd _ _) (qv h1 h2)) FV
theorem Lg {j:O} (h:n<=280000+a+i) (h1:a<=20000) (h2:i<=j) (h3:j<=b) (h4:b<=20000):n<=900000000:=M
theorem LG (h1:a<=x) (h2:x<=20000):a-b<=100000:=M
theorem Lh (h:n<=280000+a+i) (h1:a<=b) (h2:c=n+(b-a)+1):c<=280000+b+(i+1):=M
theorem sk {a:S O} (h: ∀k,(h:k+1<U a)->a[k]<a[k+1]) (p:O): ∀d i,(b:i+d<U a)->a[i]'M/p<=a[i+d]/p
 |0,i,_=>qx _
 |d+1,i,b=>qv (sk h p d i _) (Nat.div_le_div_right (zr (h _ _)))
def oC (w:I) (r:qn) (a:V) (e:Ending) (w':I):Prop:= ∃A c,e=t' (BA #[Z A r c,a])/\yG w w' 5 A r c (r.map B8)
theorem rO (g:O) (A:Option Addr) (n c B:O) (a:S O) (w:I) (h:E' w B 1 A n (a.map NV)) (hB:B<=(w:O)) (N':g<=20000) (hr:B5 g (-1) (J9 a)=true) (h0:1<=n):
  xG 91 #[g,Z A n c] w (oC w (Re g a) 0):=by
 have Q:=h.len;have Y':=U3 g (-1) a M hr;rw [Q] at Y';have hn:n<=g:=M;obtain⟨hin,hup⟩:=rm g (-1) a hr;have KR:=T (EM g A n c B a w h M);rw [hr] at KR;have KN:=T (vW n w M);have KW:=λW=>T (Dk g n W h0 hn N');have hh:=p5 h0 hn N';have hR:G (Re g a=kD n++(Kc (Hv g n) 0 (YJ (Hv g n) a) a).b):=by
  unfold Re;rw [qJ (by rintro rfl;simp at Q;omega),Q];rfl
 generalize Re g a=R at*
 generalize Hv g n=d at*
 have nl:=(jn n).2;generalize kD n=hd at*
 have wn:IntKind.u64.wrap (n:V)=(n:V):=by rw [qS];omega
 have h1: ¬(g:V)<0:=M;have h2: ¬(20000:V)<(g:V):=M;have hn0:((n:V)==0)=false:=by rw [zE];omega
 have H:=T h;have HIN:=T hin;have HUP:=T hup;have v:=T Q;have hw63:d<=63:=M;replace hh:=T hh;clear h hin hup Q hr Y';unfold jQ at KN;go_enter func91,ntmps91
 go_wp2_with fail;refine KR.mono ?_;rintro e w' ⟨rfl,rfl⟩
 go_wp2_with fail;refine KN.mono ?_;rintro e f ⟨A1,c1,rfl,hf1⟩;have iL:=T hf1;clear KR KN hf1
 go_wp2_with fail;refine(KW _).out.mono ?_;rintro e w' ⟨rfl,rfl⟩;clear KW
 go_wp2_with fail;obtain⟨w2,z'⟩: ∃w2,w2=f (Y #[d,Z none 0 0,Z none 0 0] 214):=⟨_,rfl⟩;have HP0:G (_q w2 ((f:O)+1) f 214 d (a.take 0)):=by
  rw [z'];exact⟨none,0,none,0,F'.new _ _ _,qP _ _ _ _,qP _ _ _ _,FV,FV,s8⟩
 have HB0:G (r' f f w2):=by rw [z'];exact(qZ _ _).alloc (qx _) _
 rw [<-z'];clear z';go_loopw [43] (λM' wr=> ∃k:O,M'=(k:la)/\k<=n/\G (_q wr ((f:O)+1) f 214 d (a.take k))/\G (r' f f wr)) (λM' _=>n-(intOf M').toNat)
 case atStart=>exact⟨0,rfl,qp _,HP0,HB0⟩
 case round=>
  clear HP0 HB0;obtain⟨k,rfl,hk,cB,X⟩:=hrel;have L:G (r' w w wr):=iL.out.2.trans (X.mono iL.out.2.size);by_cases E:k<n
  ·have hlt':(k:V)<(n:V):=M
   have hk0:(0:V)<=(k:V):=M;have Q':k<U a:=by rw [v.out];exact E
   obtain⟨ad,u,rfl,-,o,hcell⟩:=(H.below (L.mono hB)).at_ E;rw [qD,qX Q'] at o;have hxb:=HIN.out _ (zx Q');have htk:a.take (k+1)=a.take k++[a[k]]:=by rw [qs,qX Q'];rfl
   have hx1:a[k]<=20000:=M;have t:=T (Bb wr ((f:O)+1) f d a[k] 214 (a.take k) cB hx1 (qv hh (qx _)) (by rw [qh];omega))
   rw [<-htk] at t;unfold ME at t;generalize a[k]=x at*
   have cK:u=(x:la):=(zy o).symm;subst cK;clear o htk hxb
   go_wp2_with fail;refine t.mono ?_;rintro e w3 ⟨rfl,hp3,ho3⟩;have HP3:=T hp3;have HB3:=T (X.trans (ho3.below (B:=(f:O)) X.size (jv _) (λk hk=>by rw [qy.1 hk];exact qx _)))
   clear t hp3 ho3 cB X L
   go_wp2_with fail;go_roundw
   case rel=>exact⟨k+1,by first|rfl|simp,M,HP3,HB3⟩
   case measure=>simp [intOf];omega
  ·obtain rfl:k=n:=M
   rw [qH (by rw [v.out];exact qx _)] at cB
   obtain⟨Ah,ch,Al,cl,ih⟩:=cB.out;rw [v.out] at ih;have HPT:=T ih;have hgs:G ((f:O)<(wr:O)):=ih.blk.lt;have hge: ¬(k:V)<(k:V):=M;obtain⟨w3,d'⟩: ∃w3,w3=wr (Y #[Z none 0 0,()] 187):=⟨_,rfl⟩;have HW0:G (WrB wr w3 (wr:O) (YJ d (a.take 0))):=by
    rw [d'];refine⟨none,0,⟨F'.new _ _ _,qP _ _ _ _,by simp [YJ,Bw.ok],FV⟩,by simp [K'],(qZ _ _).alloc (qx _) _⟩
   have HPK:G (∀ln,r' (wr:O) wr ln->Pt ln ((f:O)+1) f 214 d Ah k ch (hiL d a) Al k cl (loL d a)):=λln h=>ih.fresh h;have z2:=(ih.fresh (show r' (wr:O) wr w3 from by rw [d'];exact(qZ _ _).alloc (qx _) _)).c2
   rw [d'] at z2;clear cB ih;obtain⟨cY,hV⟩: ∃cY,cY=wr:=⟨_,rfl⟩;subst hV
   go_wp2_with fail;rw [<-d'];have N6: ∀i,(h:i<U a)->a[i]<=20000:=λi h=>by have:=HIN.out _ (zx h);omega
   replace N6:=T N6;clear z2 d';go_loopw [53] (λS' wq=> ∃j:O,S'=(j:la)/\j<=k/\G (WrB cY wq cY (YJ d (a.take j)))) (λS' _=>k-(intOf S').toNat)
   case atStart=>exact⟨0,rfl,qp _,HW0⟩
   case round=>
    clear HW0;obtain⟨j,rfl,hj,z⟩:=hrel;obtain⟨A4,D',p,F,r⟩:=z.out;have y:=HPK.out _ r;have z0:=y.c0;by_cases E:j<k
    ·have hlt':(j:V)<(k:V):=M
     have hj0:(0:V)<=(j:V):=M;have Z':j<U a:=by rw [v.out];exact E
     obtain⟨ad,u,hAl,-,o,hcell⟩:=(E'.zY y.ol).at_ E;subst hAl;rw [qD,loL,qD,qX Z'] at o;have cK:u= .int .u16 ((a[j]%2^d:O):V):=(zy o).symm;subst cK;have hxl:a[j]%2^d<2^d:=xC _ (Nat.pow_pos M);have hp14:2^d<=2^14:=zZ M hh.out;have D:=aa d a j M;have O':j*d<=20000*14:=xA M hh.out;have K:=V_ _ cY 187 [] A4 D' _ (a[j]%2^d) (d:V) p M M;rw [O8 hxl hw63,<-Gk d a j Z'] at K;unfold XX at K;replace K:=T K;have wx:IntKind.u64.wrap ((a[j]%2^d:O):V)=((a[j]%2^d:O):V):=by rw [qS];omega
     generalize a[j]%2^d=xl at*
     have qj:=T p;have N:=T F;have P:=T r;clear o hxl hp14 D O' z p F r y
     go_wp2_with fail;refine K.mono ?_;rintro e C ⟨rfl,A5,cap5,ck,iv⟩;have P':G (WrB cY C cY (YJ d (a.take (j+1)))):=WrB.step qj N P ck iv;clear K ck iv qj N P
     go_wp2_with fail;go_roundw
     case rel=>exact⟨j+1,by first|rfl|simp,M,P'⟩
     case measure=>simp [intOf];omega
    ·obtain rfl:j=k:=M
     rw [qH (by rw [v.out];exact qx _)] at z
     have D:=aa d a j (by rw [v.out];exact qx _)
     rw [qH (by rw [v.out];exact qx _)] at D
     have O':j*d<=20000*14:=xA M hh.out;have hge: ¬(j:V)<(j:V):=M;have z1:=y.c1;have hsn0:(YJ d a).n<=280000:=M;have HF0:G (Kc d 0 (YJ d a) (a.drop 0)=Kc d 0 (YJ d a) a):=rfl;generalize hFF:Kc d 0 (YJ d a) a=FF at*
     generalize YJ d a=s0 at*
     clear D O' hFF p F r y z0
     go_wp2_with fail;go_loopw [13,66] (λv13 OX wq=> ∃(i l:O) (s:Bw),v13=(l:la)/\OX=(i:la)/\i<=j/\l<=20000/\s.n<=280000+l+i/\G (∀m,i<=m->(h:m<U a)->l<=a[m]/2^d)/\G (Kc d l s (a.drop i)=FF)/\G (WrB cY wq cY s)) (λ_ OX _=>j-(intOf OX).toNat)
     case atStart=>exact⟨0,0,s0,rfl,rfl,qp _,M,M,λ_ _ _=>qp _,HF0,z⟩
     case round=>
      clear HF0 z z1 hsn0;obtain⟨i,l,s,rfl,rfl,hi,hwas,D,J',HG,z⟩:=hrel;obtain⟨A4,D',p,F,r⟩:=z.out;have y:=HPK.out _ r;by_cases E:i<j
      ·have hlt':(i:V)<(j:V):=M
       have hi0:(0:V)<=(i:V):=M;have p':i<U a:=by rw [v.out];exact E
       obtain⟨ad,u,hAh,-,o,hcell⟩:=(E'.zY y.oh).at_ E;subst hAh;rw [qD,hiL,qD,qX p'] at o;have cK:u=e' ((a[i]/2^d:O):V):=(zy o).symm;subst cK;have U':=J'.out i (qx _) p';have hx2:=N6.out i p';have X':a[i]/2^d<=a[i]:=xr _ _;have G':=HG.out;rw [rM d l s a i p'] at G';have HMO2:G (∀m,i+1<=m->(h:m<U a)->a[i]/2^d<=a[m]/2^d):=λm hm h=>by
        have:=sk HUP (2^d) (m-i) i M;have e:i+(m-i)=m:=M;simpa only [e] using this
       generalize a[i]/2^d=q at*
       have hsub:(q:V)-(l:V)=((q-l:O):V):=(Int.ofNat_sub U').symm;have hwsub:wrap64 ((q-l:O):V)=((q-l:O):V):=Kr _ (LF X' hx2);have uK:=tD _ cY 187 [] A4 D' s ((q-l:O):V) p (Lg D hwas hi hn N');rw [O9 (LG X' hx2)] at uK;have hun:=Nd (q-l) s;unfold XX at uK;generalize U_ s (q-l)=s2 at*
       have hs2:s2.n<=280000+q+(i+1):=Lh D U' hun;replace uK:=T uK;replace G':=T G';generalize q-l=dd at*
       have qj:=T p;have N:=T F;have P:=T r;clear o U' hun z p F r y HG J'
       go_wp2_with fail;refine uK.mono ?_;rintro e C ⟨rfl,A5,cap5,ck,iv⟩;have P':G (WrB cY C cY s2):=WrB.step qj N P ck iv;clear uK ck iv qj N P
       go_wp2_with fail;go_roundw
       case rel=>exact⟨i+1,q,s2,by first|rfl|simp,by first|rfl|simp,M,M,hs2,HMO2,G',P'⟩
       case measure=>simp [intOf];omega
      ·obtain rfl:i=j:=M
       have hge: ¬(i:V)<(i:V):=M;have HFs:G (s=FF):=by
        have h:=HG.out;rw [zD (by rw [v.out];exact qx _)] at h
        exact h
       have hbl:U s.b<=1000000:=by have:=p.ok;unfold Bw.ok at this;omega
       have KB:=T (FM _ cY 187 [] A4 D' s p M);have I':G (r' f f wr):=X.trans (r.mono (zr hgs));have u':=λln (h:r' (wr:O) wr ln)=>(E'.zY iL.out.1).below (show r' f f ln from I'.trans (h.mono I'.size))
       replace u':=T u';have L:G (r' w w wr):=iL.out.2.trans (I'.mono iL.out.2.size);have hR2:G (R=hd++s.b):=by rw [Hid,hR.out,HFs.out]
       generalize s.b=sb at*
       unfold jQ at KB;clear HG z p F r y J' D
       go_wp2_with fail;refine KB.mono ?_;rintro e C ⟨A5,c5,rfl,cL⟩;have hw15:(f:O)<=(C:O):=qv I'.size cL.2.size;have t:=T (Yz C A1 A5 hd sb c1 c5 hd sb ((u'.out C cL.2).more hw15) cL.reads (qv (Nat.add_le_add nl hbl) FV))
       have m':G (r' w w C):=L.trans (cL.2.mono L.size);rw [<-hR2.out] at t;unfold jQ at t;clear KB cL L u'
       go_wp2_with fail;refine t.mono ?_;rintro e w6 ⟨A6,c6,rfl,N9⟩;have HX:G (yG w w6 5 A6 R c6 (R.map B8)):=⟨qi N9.1 (qv m'.size s8),(m'.alloc m'.size _).trans (N9.2.mono (qv m'.size s8))⟩
       clear t N9 m'
       go_wp2_with fail
       go_ret2;exact⟨A6,c6,rfl,HX.out⟩
theorem Ur (A:q') (n c B:O) (bs:qn) (P':Bool) (w:I) (ht:Pl w) (h:E' w B 1 A n (bs.map B8)) (hB:B<=(w:O)) (hn:n<=32768) (hq:P'=false->Sq (Bs bs)):
  xG 33 #[Z A n c,P'] w (Qr 5 w (Rv bs P') 0):=by
 have H:=T h;have t:=T ht;have HB:=T hB;have Z':U bs=n:=by have:=h.len;simpa using this
 have Y':=T Z';have hn1: ¬(32768:V)<(n:V):=M;obtain⟨R,hR⟩:=zn (Rv bs P');rw [<-hR];have hE:(if 32768<U bs then(6:V) else 0)=0:=qJ M;have E:R=nv (sy P' bs) n (uX P' bs):=by
  rw [hR];unfold Rv Mi;rw [qk hE,Z']
 clear hR h ht hB Z' hE;cases P'
 focus
  have KS:=T (EC A n c B _ w H HB hn (hq rfl));unfold iY at KS;have X':sy false bs=decide (U (Kh bs)<n):=by unfold sy;rw [Y'.out];rfl
  rw [X'] at E;unfold uX at E;rw [X'] at E;generalize Kh bs=sq at*;by_cases U':U sq<n
  ·rw [qw U',qk rfl] at E;have O':G (R=dc ([1]++kD n++kD (U sq)++sq)):=E;rw [qw U'] at KS;have hsn:U sq<=32768:=M;clear E hq X' U';go_in;go_wp2_with fail;refine KS.mono ?_;rintro e a ⟨A1,c1,rfl,G'⟩;have HY:=T (E'.zY G'.1);have ih:=T G'.2;clear G';generalize hm:U sq=m at*;have wn:IntKind.u64.wrap (n:V)=(n:V):=by rw [qS];omega
   have wm:IntKind.u64.wrap (m:V)=(m:V):=by rw [qS];omega
   have X:E' (a (Y #[gR 1] 5)) ((a:O)+1) 1 a 1 ([(1:AB)].map B8):=zU _ _ _;have OX:r' a a (a (Y #[gR 1] 5)):=j1 _;have N':=T (HY.below (OX.mono (qx _)));have u:=T (ih.alloc ih.size (Y #[gR 1] 5));have d':=T X;have F:G ((a:O)<=(a (Y #[gR 1] 5):O)):=qv (qx _) s8;have v:G ((a:O)+1<=(a (Y #[gR 1] 5):O)):=by rw [Hid];simp
   have P:=T (vW n (a (Y #[gR 1] 5)) M);have y:=λW=>T (vW m W M);have hl1:=(jn n).2;have hl2:=(jn m).2;unfold jQ at P y;clear X OX;go_wp2_with fail;refine P.mono ?_;rintro e x ⟨l,c2,rfl,f⟩;generalize kD n=b,a (Y #[gR 1] 5)=wa at*;have N6:=T (N'.below (f.2.mono F));have cY:=T (d'.below (f.2.mono v));have iv:=T (u.trans (f.2.mono u.size));have u':=T f.reads;have qj:=T (qv F f.2.size);have ln:=T (qv v f.2.size);clear f;go_wp2_with fail;refine(y _).out.mono ?_;rintro e g ⟨o,k,rfl,d⟩;generalize kD m=xm at*;have I':=T (N6.below (d.2.mono qj));have N9:=T (cY.below (d.2.mono ln));have m':=T (u'.below d.2);have iL:=T d.reads;have N:=T (iv.trans (d.2.mono iv.size));have K:=T (qv qj d.2.size);have D':=T (qv ln d.2.size);have J':=T d.2.size;have cL:=T (Xe g a l o 1 b _ 1 c2 k _ b _ (N9.more D') (m'.more J') iL M);have D:=T (N.alloc N.size (Y #[Z a 1 1,Z l b c2,Z o xm k] 30));have cB:=T (I'.below (((qZ _ g).alloc (qx _) (Y #[Z a 1 1,Z l b c2,Z o xm k] 30)).mono K));have hh:G ((a:O)<=(g (Y #[Z a 1 1,Z l b c2,Z o xm k] 30):O)):=qv K s8;unfold jQ at cL;clear y;go_wp2_with fail;refine cL.mono ?_;rintro e w4 ⟨A4,c4,rfl,j⟩;have hhl:U ([(1:AB)]++b++xm)<=100:=SZ;generalize g (Y #[Z a 1 1,Z l b c2,Z o xm k] 30)=wb,[(1:AB)]++b++xm=i at*;have L:=T (cB.below (j.2.mono hh));have z':=T j.reads;have z:=T (D.trans (j.2.mono D.size));have ck:=T (qv hh j.2.size);clear j;have uK:=T (Yz _ _ _ i m c4 c1 i _ z' (L.more ck) M);have r:=T (z.alloc z.size (Y #[Z A4 i c4,Z A1 m c1] 30));unfold jQ at uK;go_wp2_with fail;refine uK.mono ?_;rintro e w5 ⟨A5,c5,rfl,q⟩;have Q:=jC q.1;have p:=T (r.trans (q.2.mono r.size));have p':=T (t.below p t.pos);have S':U sq=m:=by have:=L.len;simpa using this
   have s:=T (XI _ _ _ _ _ _ p' q.reads (qx _) Q.1 Q.2 (by rw [qK];omega));have M':G (U R=U (i++sq)+4):=by
    rw [Hid,O'.out,ve]
   clear q Q S';unfold jQ at s;rw [<-M'.out] at s;generalize i++sq=fb at*;go_wp2_with fail;refine s.mono ?_;rintro e w6 ⟨A6,c6,rfl,C⟩;have cK:=C.1;rw [<-O'.out] at cK;have HF:G (yG w w6 5 A6 R c6 (R.map B8)):=⟨qi cK p.size,p.trans (C.2.mono p.size)⟩;clear C cK;go_wp2;go_ret2;exact⟨_,_,rfl,HF⟩
  focus
   rw [qc U'] at E KS;have O':G (R=dc ([0]++kD n++kD n++bs)):=by rw [Hid,E];unfold nv;simp only [Bool.false_eq_true,if_false,Y'.out]
   clear E hq X' U';go_in;go_wp2_with fail;refine KS.mono ?_;rintro e a ⟨A1,c1,rfl,G'⟩;have HY:=T (H.below (G'.2.mono HB));have ih:=T G'.2;have hBw:=T (qv HB G'.2.size);clear G';have wn:IntKind.u64.wrap (n:V)=(n:V):=by rw [qS];omega
   have X:E' (a (Y #[gR 0] 5)) ((a:O)+1) 1 a 1 ([(0:AB)].map B8):=zU _ _ _;have OX:r' a a (a (Y #[gR 0] 5)):=j1 _;have N':=T (HY.below (OX.mono hBw));have u:=T (ih.alloc ih.size (Y #[gR 0] 5));have d':=T X;have F:G (B<=(a (Y #[gR 0] 5):O)):=qv hBw s8;have v:G ((a:O)+1<=(a (Y #[gR 0] 5):O)):=by rw [Hid];simp
   have P:=T (vW n (a (Y #[gR 0] 5)) M);have y:=λW=>T (vW n W M);have hl1:=(jn n).2;unfold jQ at P y;clear X OX;go_wp2_with fail;refine P.mono ?_;rintro e x ⟨l,c2,rfl,f⟩;generalize kD n=b,a (Y #[gR 0] 5)=wa at*;have N6:=T (N'.below (f.2.mono F));have cY:=T (d'.below (f.2.mono v));have iv:=T (u.trans (f.2.mono u.size));have u':=T f.reads;have qj:=T (qv F f.2.size);have ln:=T (qv v f.2.size);clear f;go_wp2_with fail;refine(y _).out.mono ?_;rintro e g ⟨o,k,rfl,d⟩;have I':=T (N6.below (d.2.mono qj));have N9:=T (cY.below (d.2.mono ln));have m':=T (u'.below d.2);have iL:=T d.reads;have N:=T (iv.trans (d.2.mono iv.size));have K:=T (qv qj d.2.size);have D':=T (qv ln d.2.size);have J':=T d.2.size;have cL:=T (Xe g a l o 1 b b 1 c2 k _ b b (N9.more D') (m'.more J') iL M);have D:=T (N.alloc N.size (Y #[Z a 1 1,Z l b c2,Z o b k] 30));have cB:=T (I'.below (((qZ _ g).alloc (qx _) (Y #[Z a 1 1,Z l b c2,Z o b k] 30)).mono K));have hh:G (B<=(g (Y #[Z a 1 1,Z l b c2,Z o b k] 30):O)):=qv K s8;unfold jQ at cL;clear y;go_wp2_with fail;refine cL.mono ?_;rintro e w4 ⟨A4,c4,rfl,j⟩;have hhl:U ([(0:AB)]++b++b)<=100:=SZ;generalize g (Y #[Z a 1 1,Z l b c2,Z o b k] 30)=wb at*
 rotate_left
 focus
  have hw:sy true bs=false:=by unfold sy;simp
  have O':G (R=dc ([0]++kD n++kD n++bs)):=by
   rw [Hid,E,hw];unfold nv uX;simp only [hw,Bool.false_eq_true,if_false,Y'.out]
  clear E hq hw;have HY:=H;have ih:G (r' w w w):=qZ _ _;go_in;have wn:IntKind.u64.wrap (n:V)=(n:V):=by rw [qS];omega
  have wm:IntKind.u64.wrap (n:V)=(n:V):=by rw [qS];omega
  have X:E' (w (Y #[gR 0] 5)) ((w:O)+1) 1 w 1 ([(0:AB)].map B8):=zU _ _ _;have OX:r' w w (w (Y #[gR 0] 5)):=j1 _;have N':=T (HY.below (OX.mono HB));have u:=T (ih.alloc ih.size (Y #[gR 0] 5));have d':=T X;have F:G (B<=(w (Y #[gR 0] 5):O)):=qv HB s8;have v:G ((w:O)+1<=(w (Y #[gR 0] 5):O)):=by rw [Hid];simp
  have P:=T (vW n (w (Y #[gR 0] 5)) M);have y:=λW=>T (vW n W M);have hl1:=(jn n).2;have hl2:=(jn n).2;unfold jQ at P y;clear X OX HY;go_wp2_with fail;refine P.mono ?_;rintro e x ⟨l,c2,rfl,f⟩;generalize kD n=b,w (Y #[gR 0] 5)=wa at*;have N6:=T (N'.below (f.2.mono F));have cY:=T (d'.below (f.2.mono v));have iv:=T (u.trans (f.2.mono u.size));have u':=T f.reads;have qj:G (B<=(x:O)):=qv F f.2.size;have ln:G ((w:O)+1<=(x:O)):=qv v f.2.size;clear f;go_wp2_with fail;refine(y _).out.mono ?_;rintro e g ⟨o,k,rfl,d⟩;have I':=T (N6.below (d.2.mono qj));have N9:=T (cY.below (d.2.mono ln));have m':=T (u'.below d.2);have iL:=T d.reads;have N:=T (iv.trans (d.2.mono iv.size));have K:G (B<=(g:O)):=qv qj d.2.size;have D':G ((w:O)+1<=(g:O)):=qv ln d.2.size;have J':G ((x:O)<=(g:O)):=d.2.size;have cL:=T (Xe g w l o 1 b b 1 c2 k [(0:AB)] b b (N9.more D') (m'.more J') iL M);have D:=T (N.alloc N.size (Y #[Z w 1 1,Z l b c2,Z o b k] 30));have cB:=T (I'.below (((qZ _ g).alloc (qx _) (Y #[Z w 1 1,Z l b c2,Z o b k] 30)).mono K));have hh:G (B<=(g (Y #[Z w 1 1,Z l b c2,Z o b k] 30):O)):=qv K s8;unfold jQ at cL;clear y;go_wp2_with fail;refine cL.mono ?_;rintro e w4 ⟨A4,c4,rfl,j⟩;have hhl:U ([(0:AB)]++b++b)<=100:=SZ;generalize g (Y #[Z w 1 1,Z l b c2,Z o b k] 30)=wb at*
 all_goals
  generalize [(0:AB)]++b++b=i at*;have L:=T (cB.below (j.2.mono hh));have z':=T j.reads;have z:=T (D.trans (j.2.mono D.size));have ck:=T (qv hh j.2.size);clear j;have uK:=T (Yz _ _ A i n c4 c i _ z' (L.more ck) M);have r:=T (z.alloc z.size (Y #[Z A4 i c4,Z A n c] 30));unfold jQ at uK;go_wp2_with fail;refine uK.mono ?_;rintro e w5 ⟨A5,c5,rfl,q⟩;have Q:=jC q.1;have p:=T (r.trans (q.2.mono r.size));have p':=T (t.below p t.pos);have S':U bs=n:=by have:=L.len;simpa using this
  have s:=T (XI _ _ _ _ _ _ p' q.reads (qx _) Q.1 Q.2 (by rw [qK];omega));have M':G (U R=U (i++bs)+4):=by
   rw [Hid,O'.out,ve]
  clear q Q S';unfold jQ at s;rw [<-M'.out] at s;generalize i++bs=fb at*;go_wp2_with fail;refine s.mono ?_;rintro e w6 ⟨A6,c6,rfl,C⟩;have cK:=C.1;rw [<-O'.out] at cK;have HF:G (yG w w6 5 A6 R c6 (R.map B8)):=⟨qi cK p.size,p.trans (C.2.mono p.size)⟩;clear C cK;go_wp2;go_ret2;exact⟨_,_,rfl,HF⟩
theorem Tg (c s:S O) (i:O) (b:i<U c) (a:i<U s):VU (c.drop i) (s.drop i)=kD c[i]++kD s[i]++VU (c.drop (i+1)) (s.drop (i+1)):=by
 rw [zK b,zK a];rfl
theorem C3 (W:I) (g B n l o cc cs:O) (Ac As:Option Addr) (c s:S O) (k0:i' W g=J (Z Ac n cc)) (k1:i' W ⟨g,1,none⟩=J (Z As n cs)) (k2:i' W ⟨g,2,none⟩=J (l:la)) (k3:i' W ⟨g,3,none⟩=J (o:la))
  (hg:g<(W:O)) (hc:E' W B 1 Ac n (c.map NV)) (hs:E' W B 1 As n (s.map NV)) (hB:B<=(W:O)) (hn:n<=20000) (d': ∀x∈c,x<=10000000) (u': ∀x∈s,x<=10000000) (hcl:l<=100000000) (hix:o<=100000000):
  xG 62 #[mJ g] W (jQ 5 W (U (Cz ⟨c,s,l,o⟩)) ((Cz ⟨c,s,l,o⟩).map B8)):=by
 have N:U c=n:=hc.len;have N9:U s=n:=hs.len;have O':=VX c c 10000000 d';rw [jP] at O';obtain⟨R,hR⟩: ∃R,R=Cz ⟨c,s,l,o⟩:=⟨_,rfl⟩;rw [<-hR];have I':G (kD c.sum++kD (U c)++VU c s++kD l++kD o=R):=by rw [Hid,hR];rfl
 have HS:G (∀b,r' (W:O) W b->i' b g=J (Z Ac n cc)/\i' b ⟨g,1,none⟩=J (Z As n cs)/\i' b ⟨g,2,none⟩=J (l:la)/\i' b ⟨g,3,none⟩=J (o:la)):=λb h=>
  ⟨(h.cell (p:= g) hg).trans k0,(h.cell (p:=⟨g,1,none⟩) hg).trans k1,(h.cell (p:=⟨g,2,none⟩) hg).trans k2,(h.cell (p:=⟨g,3,none⟩) hg).trans k3⟩
 have KS:=T (Z8 Ac cc B c W.drew (by rw [N];exact hc.drew) M d')
 rw [N] at KS;have N':=λW=>T (vW c.sum W M);have z':=λW=>T (vW n W M);have D':=λW=>T (vW l W M);have G':=λW=>T (vW o W M);have P':=T (λx W (h:x<=10000000)=>vW x W M);have l1:=(jn c.sum).2;have l2:=(jn n).2;have l3:=(jn l).2;have l4:=(jn o).2;rw [N] at I';have w1_:IntKind.u64.wrap (c.sum:V)=(c.sum:V):=by rw [qS];omega
 have Z':IntKind.u64.wrap (n:V)=(n:V):=by rw [qS];omega
 have w3_:IntKind.u64.wrap (l:V)=(l:V):=by rw [qS];omega
 have w4_:IntKind.u64.wrap (o:V)=(o:V):=by rw [qS];omega
 unfold jQ at N' z' D' G';generalize kD c.sum=x1 at*
 generalize kD n=cB at*
 generalize kD l=Q at*
 generalize kD o=cL at*
 generalize c.sum=sm at*
 have HC:=T hc;have HZ:=T hs;replace N:=T N;replace N9:=T N9;replace d':=T d';replace u':=T u';clear hR O' hc hs k0 k1 k2 k3;go_enter func62,ntmps62
 go_wp2_with fail;refine zv 17 (λb=>i' b g=J (Z Ac n cc)/\i' b ⟨g,1,none⟩=J (Z As n cs)/\i' b ⟨g,2,none⟩=J (l:la)/\i' b ⟨g,3,none⟩=J (o:la)) AL (HS.out _ (qZ _ _).drew) (λd=> ?_)
 refine zq [0,1,2,3,7,8] (a':= ?_) ?_;refine zq [9,10,11,12] (a':= ?_) ?_;refine vf 4 KS ?_;rintro e w' ⟨rfl,rfl⟩;refine⟨_,rfl,(d),λd=> ?_⟩;refine zq [5] (a':= ?_) ?_;refine IA 6 rfl AL SQ (λK a=> ?_);go_simp
 (go_at_call 31;((with_reducible refine((N' _).out).mono ?_);rintro e X ⟨E,ih,rfl,w⟩);have q:r' (W:O) W X:=(qZ _ W).drew.trans w.2)
 refine a _ _ ((HS.out _ q)) (λd=> ?_);clear a K;try simp only [Act.put,qQ,qY,qV]
 refine IA 13 rfl AL SQ (λK a=> ?_);go_simp
 (go_at_call 31;((with_reducible refine((z' _).out).mono ?_);rintro e hh ⟨H,F,rfl,f⟩);have k:=q.trans (f.2.mono q.size))
 refine a _ _ ((HS.out _ k)) (λd=> ?_);clear a K;try simp only [Act.put,qQ,qY,qV]
 have t:=T (Yz hh E H x1 cB ih F x1 cB ((w.reads.below f.2).more f.2.size) f.reads M);have j:r' (W:O) W (hh.alloc (Y #[Z E x1 ih,Z H cB F] 30)):=k.alloc k.size _;unfold jQ at t;have S':U (x1++cB)<=100:=by rw [qK];omega
 generalize x1++cB=cY at*
 refine IA 14 rfl AL SQ (λK a=> ?_);go_simp;skip
 refine a _ _ ((HS.out _ j)) (λd=> ?_);clear a K;try simp only [Act.put,qQ,qY,qV]
 refine IA 15 rfl AL SQ (λK a=> ?_);go_simp
 (go_at_call 30;((with_reducible refine(t.out).mono ?_);rintro e wD ⟨cK,P,rfl,v⟩);have A:=j.trans (v.2.mono j.size))
 refine a _ _ ((HS.out _ A)) (λd=> ?_);clear a K;try simp only [Act.put,qQ,qY,qV]
 refine zq [16] (a':= ?_) ?_;refine zV AL ?_ _;have m':=T (qi v.1 j.size);have ck:=T A;clear t KS N' z' w f v q k j A d w1_ Z' l1 l2;generalize L:U cY=m0 at*
 replace L:=T L;obtain⟨q0,-,-,-⟩:=HS.out _ ck.out
 go_wp2_with fail;go_loopw [3,27] (λv3 OX wr=> ∃(i m c2:O) (uK:Option Addr) (C:S AB),v3=Z uK m c2/\OX=(i:la)/\i<=n/\m<=100+20*i/\G (U C=m)/\G (C++VU (c.drop i) (s.drop i)++Q++cL=R)/\G (xp wr (W:O) 5 1 (Z uK m c2) m (C.map B8))/\G (r' (W:O) W wr)) (λ_ OX _=>n-(intOf OX).toNat)
 case atStart=>exact⟨0,m0,P,cK,cY,rfl,rfl,qp _,M,L,I',m',ck⟩
 case round=>
  clear m' ck L I' q0;obtain⟨i,m,c2,uK,C,rfl,rfl,hin,hm,HL,HR,HO,z⟩:=hrel;by_cases p':i<n
  focus
   have hlt':(i:V)<(n:V):=M
   have hi0:(0:V)<=(i:V):=M;have N6:i<U c:=by rw [N.out];exact p'
   have M':i<U s:=by rw [N9.out];exact p'
   have ln:=HR.out;rw [Tg c s i N6 M'] at ln;have hxm:=d'.out _ (zx N6);have U':=u'.out _ (zx M');obtain⟨ad,u,Y',-,hu,hcell⟩:=(HC.below (z.mono hB)).at_ p';obtain⟨iL,u2,hA2,-,J',Q'⟩:=(HZ.below (z.mono hB)).at_ p';rw [qD,qX N6] at hu;rw [qD,qX M'] at J';generalize c[i]=x at*
   generalize s[i]=y at*
   have e1:u=(x:la):=(zy hu).symm;have e2:u2=(y:la):=(zy J').symm;subst e1;subst e2;subst Y';subst hA2;have D:G ((W:O)<=(wr:O)):=z.size;have KX:=λW=>T (P'.out x W hxm);have KY:=λW=>T (P'.out y W U');have lx:=(jn x).2;have ly:=(jn y).2;have wx:IntKind.u64.wrap (x:V)=(x:V):=by rw [qS];omega
   have wy:IntKind.u64.wrap (y:V)=(y:V):=by rw [qS];omega
   unfold jQ at KX KY;generalize kD x=iv at*
   generalize kD y=qj at*
   have r:G (∀b,r' (wr:O) wr b->i' b ⟨g,1,none⟩=J (Z (some iL) n cs)/\i' b (iL.add i)=J (y:la)):=λb h=>⟨(HS.out b (z.trans (h.mono D))).2.1,(h.cell (p:=iL.add i) (yM Q')).trans Q'⟩;replace ln:=T ln;clear hu J' HR
   go_wp2_with fail;refine zv 16 (λb=>i' b ⟨g,1,none⟩=J (Z (some iL) n cs)/\i' b (iL.add i)=J (y:la)) AL (r.out _ (qZ _ _).drew) (λd=> ?_)
   refine zq [0,1,2,4,5,6] (a':= ?_) ?_;refine zq [7,8,9,10,11] (a':= ?_) ?_;refine IA 3 rfl AL SQ (λK a=> ?_);go_simp
   (go_at_call 31;((with_reducible refine((KX _).out).mono ?_);rintro e X ⟨E,ih,rfl,w⟩);have q:r' (wr:O) wr X:=(qZ _ wr).drew.trans w.2)
   refine a _ _ ((r.out _ q)) (λd=> ?_);clear a K;try simp only [Act.put,qQ,qY,qV]
   refine IA 12 rfl AL SQ (λK a=> ?_);go_simp
   (go_at_call 31;((with_reducible refine((KY _).out).mono ?_);rintro e hh ⟨H,F,rfl,f⟩);have k:=q.trans (f.2.mono q.size))
   refine a _ _ ((r.out _ k)) (λd=> ?_);clear a K;try simp only [Act.put,qQ,qY,qV]
   have t:=T (Xe hh uK E H m iv qj c2 ih F C iv qj (E'.zY (qG HO k)) ((w.reads.below f.2).more f.2.size) f.reads M);have j:r' (wr:O) wr (hh.alloc (Y #[Z uK m c2,Z E iv ih,Z H qj F] 30)):=k.alloc k.size _;unfold jQ at t;have S':U (C++iv++qj)<=100+20*(i+1):=by rw [qK,qK,HL.out];omega
   have X':G (C++iv++qj++VU (c.drop (i+1)) (s.drop (i+1))++Q++cL=R):=by rw [Hid,<-ln.out];simp
   generalize C++iv++qj=cY at*
  rotate_left
  focus
   obtain rfl:i=n:=M
   have ln:G (C++Q++cL=R):=by
    have h:=HR.out;rw [zD (by rw [N.out];exact qx _)] at h
    rw [show VU [] (s.drop i)=[] from rfl,jx] at h
    exact h
   have D:G ((W:O)<=(wr:O)):=z.size;have r:G (∀b,r' (wr:O) wr b->i' b ⟨g,2,none⟩=J (l:la)/\i' b ⟨g,3,none⟩=J (o:la)):=λb h=>⟨(HS.out b (z.trans (h.mono D))).2.2.1,(HS.out b (z.trans (h.mono D))).2.2.2⟩;clear HR
   go_wp2_with fail;refine zv 16 (λb=>i' b ⟨g,2,none⟩=J (l:la)/\i' b ⟨g,3,none⟩=J (o:la)) AL (r.out _ (qZ _ _).drew) (λd=> ?_)
   refine zq [0,1,2,3,4,5] (a':= ?_) ?_;refine zq [7,8,9,10,11] (a':= ?_) ?_;refine IA 6 rfl AL SQ (λK a=> ?_);go_simp
   (go_at_call 31;((with_reducible refine((D' _).out).mono ?_);rintro e X ⟨E,ih,rfl,w⟩);have q:r' (wr:O) wr X:=(qZ _ wr).drew.trans w.2)
   refine a _ _ ((r.out _ q)) (λd=> ?_);clear a K;try simp only [Act.put,qQ,qY,qV]
   refine IA 12 rfl AL SQ (λK a=> ?_);go_simp
   (go_at_call 31;((with_reducible refine((G' _).out).mono ?_);rintro e hh ⟨H,F,rfl,f⟩);have k:=q.trans (f.2.mono q.size))
   refine a _ _ ((r.out _ k)) (λd=> ?_);clear a K;try simp only [Act.put,qQ,qY,qV]
   have t:=T (Xe hh uK E H m Q cL c2 ih F C Q cL (E'.zY (qG HO k)) ((w.reads.below f.2).more f.2.size) f.reads M);have j:r' (wr:O) wr (hh.alloc (Y #[Z uK m c2,Z E Q ih,Z H cL F] 30)):=k.alloc k.size _;unfold jQ at t;rw [ln.out] at t
  rotate_left
  all_goals
   refine IA 13 rfl AL SQ (λK a=> ?_);go_simp;skip
   refine a _ _ ((r.out _ j)) (λd=> ?_);clear a K;try simp only [Act.put,qQ,qY,qV]
   refine IA 14 rfl AL SQ (λK a=> ?_);go_simp
   (go_at_call 30;((with_reducible refine(t.out).mono ?_);rintro e wD ⟨cK,P,rfl,v⟩);have A:=j.trans (v.2.mono j.size))
   refine a _ _ ((r.out _ A)) (λd=> ?_);clear a K;try simp only [Act.put,qQ,qY,qV]
   refine zq [15] (a':= ?_) ?_;refine zV AL ?_ _
  ·have m':=T (qi v.1 (qv D j.size));have ck:=T (z.trans (A.mono D));clear t KX KY w f v q k j A d r ln HO z;generalize L:U cY=m1 at*
   replace L:=T L
   go_wp2_with fail;go_roundw
   case rel=>exact⟨i+1,m1,P,cK,cY,by first|rfl|simp,by first|rfl|simp,M,S',L,X',m',ck⟩
   case measure=>simp [intOf];omega
  ·have HF:G (yG W wD 5 cK R P (R.map B8)):=⟨qi v.1 (qv D j.size),z.trans (A.mono D)⟩;clear t D' G' w f v q k j A d r ln HO z
   go_wp2_with fail;go_ret;exact⟨cK,P,rfl,HF.out⟩
def Jf (W:I) (r:V×qn) (e:Ending) (c:I):Prop:=
 ∃b a,e=t' (BA #[Z b r.2 a,e' r.1])/\yG W c 5 b r.2 a (r.2.map B8)
def Pz (o:Lx) (l:S JH):V×qn:=if vM 1 o≠0 then(vM 1 o,[]) else if kF l≠0 then(6,[]) else(0,pG o l)
structure rI (o:Lx) (l:S JH):Prop where
 blk:Es o.plain (Xl o l) l
 tot:U (pa true l)<=1000000000
 num:U (Xl o l)<=20000
theorem rl (o:Lx) (A:q') (c B:O) (l:S JH) (W:I) (ht:Pl W) (hgl:0<B) (h:E' W B 4 A l (ji l)) (D:B<=(W:O)) (hl:U l<=1000000000) (hc:U l<=c) (hm:c<=maxLen) (hd: -9223372036854775808<=o.data/\o.data<=9223372036854775807) (Y':kF l=0-> ∀r∈l,Yj r)
  (O':vM 1 o=0->kF l=0->rI o l):
  xG 18 #[.agg (Ld o),Z A l c] W (Jf W (Pz o l)):=by
 obtain⟨R,hR⟩:=zn (Pz o l);rw [<-hR];unfold Pz at hR;obtain⟨s,b,kk,y,w,x⟩:=o;dsimp only at hd;unfold Ld;dsimp only;have D':G (r' (W:O) W (W (Y #[s,b,kk,y,w,x] 23))):=j1 _;have cY:G (F' (W (Y #[s,b,kk,y,w,x] 23)) (W:O) 23 #[s,b,kk,y,w,x]):=F'.new _ _ _;have KO:=T (JX 1 s kk y w x b (W (Y #[s,b,kk,y,w,x] 23)) hd);rw [VT 1 s kk y w x b] at KO;have H:=T h;have HT:=T ht;have HGL:=T hgl;have hz1:i' (W (Y #[s,b,kk,y,w,x] 23)) (W:O)=J (s:la):=cY.cell 0;clear h ht hgl;by_cases h1:vM 1 ⟨s,b,kk,y,w,x⟩=0
 case neg=>
  have HR:=T (hR.trans (qk h1));generalize vM 1 ⟨s,b,kk,y,w,x⟩=E at*;have hEz:(E==0)=false:=by simpa using h1
  have hEn:(E !=0)=true:=by simpa using h1
  clear hR O' Y';go_in;go_wp2_with fail;refine zC KO ?_;intro w1 iL;have hh:=T (D'.trans (iL.mono D'.size));clear iL hz1;go_wp2;go_ret2;unfold Jf;rw [HR.out];exact⟨none,0,rfl,qP _ _ _ _,hh⟩
 rw [qJ (by simpa using h1)] at hR;have KC:=T (λW h D=>JW A c B l W h D hl);by_cases h2:kF l=0
 case neg=>
  have h6:kF l=6:=by
   revert h2;unfold kF;split<;>simp
  have HR:=T (hR.trans (qk h2));rw [h6] at KC;rw [h1] at KO;clear hR O' h1 h2 h6 Y';go_in;go_wp2_with fail;refine zC KO ?_;intro w1 iL;have hh:=T (D'.trans (iL.mono D'.size));have M':=T (KC w1 (H.below (hh.mono D)) (qv D hh.size));clear iL hz1;go_wp2_with fail;refine zC M' ?_;intro w2 G';have p':=T (hh.trans (G'.mono hh.size));clear G';go_wp2;go_ret2;unfold Jf;rw [HR.out];exact⟨none,0,rfl,qP _ _ _ _,p'⟩
 rw [qJ (by simpa using h2)] at hR;have HOK:=T (Y' h2);clear Y';obtain⟨hblk,htot,hnum⟩:=O' h1 h2;have hbk:16<=s/\s<=32768:=by
  unfold vM at h1;rw [qJ M] at h1;split at h1
  ·rename_i h;exact h.1
  ·cases h1
 have hll:U l<=20000:=by
  unfold kF at h2;split at h2
  ·cases h2
  ·rename_i h;omega
 rw [h1] at KO;rw [h2] at KC;have KG:=T (λW h D=>gj s true A c B l W h D M HOK htot);have hgr:G (sh s true l=Xl ⟨s,b,kk,y,w,x⟩ l):=rfl;rw [hgr.out] at KG;unfold gz at KG;have N9:R=(0,dc (_l 1++kD s.toNat++[C1 b]++kD (U l)++kD (U (Xl ⟨s,b,kk,y,w,x⟩ l))++Y6 b (Xl ⟨s,b,kk,y,w,x⟩ l) l)):=hR;generalize Xl ⟨s,b,kk,y,w,x⟩ l=ln at*;obtain⟨ih,rfl⟩: ∃ih:O,s=(ih:V):=⟨s.toNat,M⟩;rw [show((ih:O):V).toNat=ih from rfl] at N9;replace hblk:=T hblk;clear hR O' h1 h2 htot;go_in;go_wp2_with fail;generalize W (Y #[ih,b,kk,y,w,x] 23)=w0 at*;refine zC KO ?_;intro w1 iL;have hh:=T (D'.trans (iL.mono D'.size));have HK1:=T (cY.below iL cY.lt);have M':=T (KC w1 (H.below (hh.mono D)) (qv D hh.size));clear iL hz1;go_wp2_with fail;refine zC M' ?_;intro w2 G';have p':=T (hh.trans (G'.mono hh.size));have HK2:=T (HK1.below G' HK1.lt);have z20:i' w2 (W:O)=J (ih:la):=HK2.cell 0;have KG2:=T (KG w2 (H.below (p'.mono D)) (qv D p'.size));clear G';go_wp2_with fail;refine KG2.mono ?_;rintro e w3 ⟨A3,c3,rfl,ho3,hB3⟩;have HB3:=T (p'.trans (hB3.mono p'.size));have HK3:=T (HK2.below hB3 HK2.lt);have HG3:=T (qi ho3 p'.size);have KM:=T (CT 1 w3 M M);clear ho3 hB3 z20;go_wp2_with fail;refine KM.mono ?_;rintro e w4 ⟨A4,c4,rfl,ho4,hB4⟩;have S':=T (HB3.trans (hB4.mono HB3.size));have z':=T (HK3.below hB4 HK3.lt);have HG4:=T (qG HG3 hB4);have HM4:=T (E'.zY ho4);clear ho4 hB4;have uK:G (∀F,r' w4 w4 F->i' F (W:O)=J (ih:la)/\i' F ⟨(W:O),1,none⟩=J (.bool b)):=λF hW=>⟨(hW.cell (p:= (W:O)) z'.lt).trans (z'.cell 0),(hW.cell (p:=⟨(W:O),1,none⟩) z'.lt).trans (z'.cell 1)⟩;have KN1:=λW=>T (vW ih W M);have Q':=λW=>T (vW l W M);have N6:=λW=>T (vW ln W M);have KF:=λW=>T (Mg b W);have wb:IntKind.u64.wrap (ih:V)=(ih:V):=by rw [qS];omega
 have wl:IntKind.u64.wrap (U l:V)=(U l:V):=by rw [qS];omega
 have wg:IntKind.u64.wrap (U ln:V)=(U ln:V):=by rw [qS];omega
 have ln1:=(jn ih).2;have ln2:=(jn l).2;have ln3:=(jn ln).2;unfold jQ at KN1 Q' N6;generalize kD ih=X,kD (U l)=qj,kD (U ln)=g at*;obtain⟨u,hfv⟩: ∃u:V,u=((C1 b).toNat:V):=⟨_,rfl⟩;have m':G ([C1 b].map B8=[gR u]):=by rw [Hid,hfv];rfl
 rw [<-hfv] at KF;replace hfv:=T hfv;generalize C1 b=fb at*;go_wp2_with fail;refine zv 20 (λF=>i' F (W:O)=J (ih:la)/\i' F ⟨(W:O),1,none⟩=J (.bool b)) AL (uK _ (qZ _ _).drew) (λq=> ?_);refine zq [0,1,2,3,5,6] (a':= ?_) ?_;refine zq [9,10,11,13,14,15] (a':= ?_) ?_;refine IA 4 rfl AL SQ (λK a=> ?_);go_simp
 (go_at_call 31;((with_reducible refine((KN1 _).out).mono ?_);rintro e cK ⟨A5,c5,rfl,cB⟩);have bA:r' w4 w4 cK:=(qZ _ w4).drew.trans cB.2)
 refine a _ _ ((uK _ bA)) (λq=>xb ?_);clear a K;refine vf 7 (T ((KF _).out)) ?_;rintro e w' ⟨rfl,rfl⟩;refine⟨_,rfl,(q),λq=> ?_⟩;have RA:=cB.reads;have RMA:E' cK w4 1 A4 5 ((_l 1).map B8):=HM4.below bA;clear cB;refine dV 8 12 rfl rfl AL SQ SQ (λK a=> ?_) (λK a=> ?_);go_simp;have f:r' cK cK (cK (Y #[gR u] 5)):=j1 _;have L:=bA.trans (f.mono bA.size);refine a _ _ (uK _ L) (λq=>xb ?_);clear a K;refine IA 12 rfl AL SQ (λK a=> ?_);go_simp
 (go_at_call 31;((with_reducible refine((Q' _).out).mono ?_);rintro e cL ⟨A6,c6,rfl,j⟩);have Q:=L.trans (j.2.mono L.size))
 refine a _ _ ((uK _ Q)) (λq=>xb ?_);clear a K;refine IA 16 rfl AL SQ (λK a=> ?_);go_simp
 (go_at_call 31;((with_reducible refine((N6 _).out).mono ?_);rintro e t ⟨A7,c7,rfl,d⟩);have N:=Q.trans (d.2.mono Q.size))
 refine a _ _ ((uK _ N)) (λq=>xb ?_);clear a K;have ZF:G (E' t t 1 cK 1 ([fb].map B8)):=by
  rw [m'.out];exact((zU cK (gR u) 5).below ((j.2.mono s8).trans (d.2.mono (qv s8 j.2.size)))).more (qv s8 (qv j.2.size d.2.size))
 have ZA:G (E' t t 1 A5 X (X.map B8)):=(((RA.below f).below (j.2.mono f.size)).below (d.2.mono (qv f.size j.2.size))).more (qv f.size (qv j.2.size d.2.size));have ZB:G (E' t t 1 A6 qj (qj.map B8)):=(j.reads.below d.2).more d.2.size;have ZC:G (E' t t 1 A7 g (g.map B8)):=d.reads;have ZZ:=T N;generalize (cK:O)=gF at*;clear f L Q N j d RA RMA bA q;rotate_left;go_simp
 (go_at_call 31;((with_reducible refine((Q' _).out).mono ?_);rintro e cL ⟨A6,c6,rfl,j⟩))
 have Q:=bA.trans (j.2.mono bA.size);refine a _ _ (uK _ Q) (λq=>xb ?_);clear a K;refine dV 8 16 rfl rfl AL SQ SQ (λK a=> ?_) (λK a=> ?_);go_simp;have f:r' cL cL (cL (Y #[gR u] 5)):=j1 _;have L:=Q.trans (f.mono Q.size);refine a _ _ (uK _ L) (λq=>xb ?_);clear a K;refine IA 16 rfl AL SQ (λK a=> ?_);go_simp
 (go_at_call 31;((with_reducible refine((N6 _).out).mono ?_);rintro e t ⟨A7,c7,rfl,d⟩);have N:=L.trans (d.2.mono L.size))
 refine a _ _ ((uK _ N)) (λq=>xb ?_);clear a K;have ZF:G (E' t t 1 cL 1 ([fb].map B8)):=by
  rw [m'.out];exact((zU cL (gR u) 5).below (d.2.mono s8)).more (qv s8 d.2.size)
 have ZA:G (E' t t 1 A5 X (X.map B8)):=(((RA.below j.2).below (f.mono j.2.size)).below (d.2.mono (qv j.2.size f.size))).more (qv j.2.size (qv f.size d.2.size));have ZB:G (E' t t 1 A6 qj (qj.map B8)):=((j.reads.below f).below (d.2.mono f.size)).more (qv f.size d.2.size);have ZC:G (E' t t 1 A7 g (g.map B8)):=d.reads;have ZZ:=T N;generalize (cL:O)=gF at*;clear f L Q N j d RA RMA bA q;rotate_left;go_simp
 (go_at_call 31;((with_reducible refine((N6 _).out).mono ?_);rintro e z ⟨A7,c7,rfl,d⟩))
 have N:=Q.trans (d.2.mono Q.size);refine a _ _ (uK _ N) (λq=>xb ?_);clear a K;have f:r' z z (z (Y #[gR u] 5)):=j1 _;have L:=N.trans (f.mono N.size);refine IA 8 rfl AL SQ (λK a=> ?_);go_simp;skip;refine a _ _ ((uK _ L)) (λq=>xb ?_);clear a K;have ZF:G (E' (z (Y #[gR u] 5)) (z (Y #[gR u] 5):O) 1 z 1 ([fb].map B8)):=by
  rw [m'.out];exact(zU z (gR u) 5).more s8
 have ZA:G (E' (z (Y #[gR u] 5)) (z (Y #[gR u] 5):O) 1 A5 X (X.map B8)):=(((RA.below j.2).below (d.2.mono j.2.size)).below (f.mono (qv j.2.size d.2.size))).more (qv j.2.size (qv d.2.size f.size));have ZB:G (E' (z (Y #[gR u] 5)) (z (Y #[gR u] 5):O) 1 A6 qj (qj.map B8)):=((j.reads.below d.2).below (f.mono d.2.size)).more (qv d.2.size f.size);have ZC:G (E' (z (Y #[gR u] 5)) (z (Y #[gR u] 5):O) 1 A7 g (g.map B8)):=(d.reads.below f).more f.size;have ZZ:=T L;obtain⟨gF,hgF⟩:=zn (z:O);rw [<-hgF] at ZF⊢;clear hgF;clear f L Q N j d RA RMA bA q;generalize z (Y #[gR u] 5)=t at*;rotate_left;all_goals
  have KA:=T (EW t A4 A5 gF A6 A7 5 X 1 qj g c4 c5 1 c6 c7 (_l 1) X [fb] qj g ((HM4.below ZZ).more ZZ.size) ZA ZF ZB ZC M);have bW:r' w4 w4 (t.alloc (Y #[Z A4 5 c4,Z A5 X c5,Z gF 1 1,Z A6 qj c6,Z A7 g c7] 30)):=ZZ.alloc ZZ.size _;have hdl:U (_l 1++X++[fb]++qj++g)<=100:=by
   simp only [qK,qf,zF];have:U (_l 1)=5:=rfl;omega
  unfold jQ at KA;generalize _l 1++X++[fb]++qj++g=hd at*;refine IA 17 rfl AL SQ (λK a=> ?_);go_simp;skip;refine a _ _ ((uK _ bW)) (λq=>xb ?_);clear a K;refine IA 18 rfl AL SQ (λK a=> ?_);go_simp
  (go_at_call 30;((with_reducible refine(KA.out).mono ?_);rintro e wE ⟨A9,c9,rfl,hfE⟩);have bE:=bW.trans (hfE.2.mono bW.size))
  refine a _ _ ((uK _ bE)) (λq=>xb ?_);clear a K;refine zq [19] (a':= ?_) ?_;refine zV AL ?_ _;have HBE:=T (S'.trans (bE.mono S'.size));have HKE:=T (z'.below bE z'.lt);have HGE:=T (qG HG4 bE);have HOE:=T (qi hfE.1 (qv S'.size bW.size));clear KA bW bE hfE q uK KN1 Q' N6 KF wb wl wg;generalize hhl:U hd=m0 at*;replace hhl:=T hhl;obtain⟨i0,hi,iz0,iz1,iz2⟩:=xt QB;obtain⟨j0,hj,jz0,jz1,jz2⟩:=qA PH;replace hj:=T hj;replace jz1:=T jz1;clear jz0 jz2;generalize hnl:U l=nl at*;replace hnl:=T hnl;generalize Z':U ln=ng at*;replace Z':=T Z';replace N9:=T N9;go_wp2;go_loopw [1,9,54] (λv1 v9 v54 wr=> ∃(i C iv m c2:O) (Ar A2:q') (v:S JH) (d':qn),v1=Z Ar C iv/\v9=Z A2 m c2/\v54=(i:la)/\i<=ng/\C<=iv/\iv<=maxLen/\C<=20000/\m<=100+40000*i/\G (U v=C)/\G (U d'=m)/\G (Es b (ln.drop i) v)/\G (R=(0,dc (d'++Y6 b (ln.drop i) v)))/\G (∀r∈v,Yj r)/\G (E' wr B 4 Ar C (ji v))/\G (xp wr (W:O) 5 1 (Z A2 m c2) m (d'.map B8))/\G (r' (W:O) W wr)/\G (F' wr (W:O) 23 #[ih,b,kk,y,w,x])/\G (xp wr (W:O) 3 1 (Z A3 ng c3) ng (ln.map NV))) (λ_ _ v54 _=>ng-(intOf v54).toNat)
  ·exact⟨0,nl,c,m0,c9,A,A9,l,hd,rfl,rfl,rfl,qp _,hc,hm,hll,M,hnl,hhl,hblk,N9,HOK,H.below (HBE.mono D),HOE,HBE,HKE,HGE⟩
  ·obtain⟨i,C,iv,m,c2,Ar,A2,v,d',rfl,rfl,rfl,hin,hnr,hcr,hn2,hm4,HLR,HACC,HBO,OX,X',HRD,HO,HB,cY,HG⟩:=hrel;by_cases hlt:i<ng
   ·have hlt':=j' i ng;have hig:i<U ln:=by rw [Z'.out];exact hlt
    have hdr:ln.drop i=ln[i]::ln.drop (i+1):=zK hig;have HBO2:=HBO.out;have I':=OX.out;rw [hdr] at HBO2 I';unfold Es at HBO2;unfold Y6 at I';obtain⟨hnlr,hb32,hsq,HBO3⟩:=HBO2;obtain⟨g3,hg3⟩:=Zx HG M;subst hg3;have hcx:=(xU (k:=i) HG hlt).1;rw [qD,qX hig] at hcx;generalize ln[i]=n at*;have hcx2:i' wr ⟨g3,i,none⟩=J (n:la):=hcx;have htl:U (v.take n)=n:=by rw [qh];omega
    have hnr2:n<=C:=by rw [<-HLR.out];exact hnlr
    have KY:=P8 true Ar iv B (v.take n) wr.drew (by rw [htl];exact(HRD.ik hnr2).drew) (qv D HB.size) (by rw [htl];omega) (λr hr=>X'.out r (j2 hr)) M;rw [htl] at KY;replace KY:=T KY;have KWR:=T (λ(W:I)A c h1 h2=>Ur A (U (pa true (v.take n))) c (W:O) (pa true (v.take n)) b W h1 h2 (qx _) hb32 hsq);have hwl:=pL (pa true (v.take n)) b hb32;generalize pa true (v.take n)=bs at*;unfold jQ at KY;unfold Qr at KWR;generalize Rv bs b=ws at*;have hd2:U (v.drop n)=C-n:=by rw [qI,HLR.out]
    have HRD2:G (∀F,r' (W:O) W F->E' F B 4 Ar C (ji v)->E' F B 4 (xo Ar iv n 4) (C-n) (ji (v.drop n))):=λF _ h=>h.MG hnr2 hnr;have HRO2:G (∀r∈v.drop n,Yj r):=λr hr=>X'.out r (Q1 hr);have hcut:=jI (P:=prog) 24 45 j0 4 QL hj jz1 Ar C iv n .i64 hnr2;generalize v.drop n=lr2 at*;rw [<-jY] at I';replace I':=T I';replace HBO3:=T HBO3;have z1:i' wr ⟨(W:O),1,none⟩=J (.bool b):=cY.cell 1;have hn0:=xi n;have hncr:=vv n iv;have hnnr:=vv n C;have hgW:=T cY.lt;clear hdr hb32 hsq hnlr hcx HBO OX htl X';go_wp2_with fail;refine zv 12 (λF=>i' F ⟨(W:O),1,none⟩=J (.bool b)) AL z1 (λq=> ?_);refine zq [0,1,2,4,5] (a':= ?_) ?_;refine IA 3 rfl AL SQ (λK a=> ?_);go_simp
    (go_at_call 34;((with_reducible refine(KY.out).mono ?_);rintro e cK ⟨Ab,cb,rfl,cB⟩);have HBA:r' (W:O) W cK:=HB.out.drew.trans (cB.2.mono (show (W:O)<=(wr.drew:O) from HB.out.size));have KWA:=T (KWR.out cK Ab cb (HT.out.below HBA HT.out.pos) cB.reads))
    refine a _ _ (((cB.2.cell (p:=⟨(W:O),1,none⟩) hgW).trans z1)) (λq=>xb ?_);clear a K;refine vf 6 KWA ?_;rintro e cL ⟨Aw,cw,rfl,m'⟩;refine⟨_,rfl,(((m'.2.cell (p:=⟨(W:O),1,none⟩) (qB hgW cB.2.size)).trans q)),λq=> ?_⟩;refine zq [7,8,9,10,11] (a':= ?_) ?_;refine zV AL ?_ _;have J':r' (wr:O) wr cL:=((qZ (wr:O) wr).drew.trans cB.2).trans (m'.2.mono cB.2.size);have HBB:=T (HBA.trans (m'.2.mono HBA.size));have HKB:=T (cY.below J' cY.lt);have HGB:=T (qG HG J');have N':=T (qG HO J');have HRB:=T (HRD.below (J'.mono (qv D HB.size)));have HWB:=T m'.reads;obtain⟨nw,hnw⟩:=zn (U ws);rw [<-hnw] at HWB hwl⊢;replace hnw:=T hnw;have hm1:m+nw<=maxLen:=SJ;have hm2:(m+nw)*1<=140737488355328:=M;have P':G ((W:O)<=(cL:O)):=HBB.size;clear KY cB m' J' HBA HB cY HG HO HRD z1 q;go_wp2_with (at_builtin;refine qF _ rfl (.tmp 71) (.tmp 72) 30 rfl (W:O) 5 i0 (gR 0) 1 1 qu hi iz0 iz1 iz2 rfl M A2 m c2 _ rfl N' cL Aw nw cw _ rfl HWB (YR _) hm1 hm2 P' ?_;intro A12 c12 w12 U' hg12 _hs12;have u':qE (K' A2) cL w12:=(qE.refl _ _).grown hg12 (λk hk=> .inl hk);replace U':=T U';replace u':=T u';clear hg12 _hs12);have hlo: ∀k∈K' A2,(W:O)<=k:=λk hk=>(zj N' k hk).1;have HB12:G (r' (W:O) W w12):=HBB.trans (u'.below hlo P');have HK12:=T (u'.blk HKB (λhk=>qT N' HKB FV _ hk rfl));have HG12:=T (u'.own HGB (xz HGB N' FV));have HR12:=T (HRD2 w12 HB12 (HRB.below (u'.below (λk hk=>qv D (hlo k hk)) (qv D P'))));have HO12:G (xp w12 (W:O) 5 1 (Z A12 (m+nw) c12) (m+nw) ((d'++ws).map B8)):=by rw [Hid,qg];exact U'.out
    have hac2:G (U (d'++ws)=m+nw):=by rw [Hid,qK,HACC.out,hnw.out]
    have hcr2:G (C-n<=iv-n/\iv-n<=maxLen/\C-n<=20000):=by rw [Hid];omega
    replace hd2:=T hd2;clear hlo hcx2;refine xk ?_;exact⟨i+1,C-n,iv-n,m+nw,c12,xo Ar iv n 4,A12,lr2,d'++ws,xg,xg,xg,M,hcr2.out.1,hcr2.out.2.1,hcr2.out.2.2,M,hd2,hac2,HBO3,I',HRO2,HR12,HO12,HB12,HK12,HG12⟩
   ·obtain rfl:i=ng:=M;have hfin:G (R=(0,dc d')):=by
     have h:=OX.out;rw [zD (by rw [Z'.out];exact qx _)] at h;unfold Y6 at h;rw [jx] at h;exact h
    have hcap:=jC HO.out;have KP:=T (XI A2 m c2 (wr:O) d' wr (HT.below HB HT.pos) (E'.zY HO) (qx _) hcap.1 hcap.2 M);have hpl:G (U (dc d')=m+4):=by rw [Hid,ve,HACC.out]
    unfold jQ at KP;clear HBO OX X' HRD hcap cY HG;go_wp2_with fail;refine KP.mono ?_;rintro e w9 ⟨A13,c13,rfl,hf⟩;have HF:G (yG W w9 5 A13 (m+4) c13 ((dc d').map B8)):=⟨qi hf.1 HB.size,HB.trans (hf.2.mono HB.size)⟩;clear hf;go_wp2;go_ret2;unfold Jf;rw [hfin.out];dsimp only;rw [hpl.out];exact⟨A13,c13,rfl,HF⟩
end Go.Proofs.YtfnlfpcfkbdcmaaGreatDoor
