import Derived.Test.YtfnlfpcfkbdcmaaGreatDoorT12
import Derived.Test.YtfnlfpcfkbdcmaaGreatDoorT13
set_option linter.unusedSimpArgs false
set_option linter.unusedVariables false
set_option maxRecDepth 100000
set_option maxHeartbeats 0
open Go.Proofs.Tryz
namespace Go.Proofs.YtfnlfpcfkbdcmaaGreatDoor
open Go.RowKit
variable {A:q'}{E:TypeId}{W w:I}{b bs:qn}{base c g k n size:O}{xs:S la}
def Sn (x:O×Bool):S Value:=[.int .u64 (x.1:V), .bool x.2]
def yC (l:S (O×Bool)):S Value:=(l.map Sn).flatten
theorem XA (a b:S (O×Bool)):yC (a++b)=yC a++yC b:=by simp [yC]
theorem Kx (x:O×Bool):yC [x]=Sn x:=by simp [yC]
theorem PF: ∀l:S (O×Bool),U (yC l)=U l*2
 |[]=>rfl
 |x::t=>by
  show(Sn x++yC t).length=_
  rw [qK,PF t,qf];show 2+_=_;omega
theorem Ez:(prog.info? 319).map (λi=>(i.zero,i.size,i.bytes))=J (some (.agg #[.int .u64 0,false]),2,16):=AL
theorem FO (h:xp w base E size (Z g n c) n xs):base<=g/\n<=c/\c<=maxLen/\U xs=n*size/\ ∃b,F' w g E b/\b.size=c*size/\b.toList.take (n*size)=xs:=by
 obtain⟨f,h0|⟨k,cap,cur,a,e,d,h1,h2,h3,h4⟩⟩:=h
 ·cases h0.1
 ·injection a with a j i;injection a with a;injection a with a;subst a;subst i;exact⟨e,h1,h2,f,_,d,h3,h4⟩
theorem VQ (h:xp w base E size (Z g n c) n xs) (b:k<n*size):i' w ⟨g,k,none⟩=xs[k]? /\w.frozen? ⟨g,k,none⟩=false:=by
 obtain⟨_,_,_,_,e,a,d,ht⟩:=FO h;refine⟨?_,a.frozen k⟩;rw [a.cell k,<-ht,xZ,qk b,Array.getElem?_toList]
theorem Uh (h:xp w base E size (Z g n c) n xs) (u:la):xp (w.setCell ⟨g,k,none⟩ u) base E size (Z g n c) n (xs.set k u):=by
 obtain⟨a,h1,h2,b,f,d,e,ht⟩:=FO h;refine⟨by rw [xE];exact b, .inr ⟨g,c,_,rfl,a,d.zh k u,h1,h2,by rw [yg];exact e, ?_⟩⟩;rw [Array.toList_setIfInBounds,List.take_set,ht]
theorem tF (F K:q') (no co B n c L:O) (os a:S O) (w:I) (h:E' w B 1 F no (os.map Qb)) (P:B<=(w:O)) (t:E' w L 1 K n (a.map NV)) (ih:L<=(w:O)) (N9:no<=1000) (hn:n<=1000) (ln: ∀x∈a,x<no) (R: ∀x∈os,x<4294967296):
  xG 205 #[Z F no co,Z K n c] w λe w'=> ∃E A,e=t' (Z E n A)/\xp w' w 319 2 (Z E n A) n (yC (Hn os a))/\r' w w w':=by
 obtain⟨uK,hi,s,j,v⟩:=qA Ez;have H:=T h;have HS:=T t;have X:=T P;have cB:=T ih;have p':=T t.len;have ck:=T ln;have z':=T R;have cY:uK.bytes*n<=281474976710656:=by rw [v];omega
 have iL:n<=maxLen:=SJ;revert hi s j;refine vn ?_;intro hi s j;clear h P t ih ln R;go_in;go_wp2_with (at_make;refine xP _ rfl _ _ 314 rfl w 319 uK (.agg #[.int .u64 0,false]) 2 QD hi s j .i64 .i64 _ _ n rfl rfl rfl rfl cY iL (qx _) ?_;intro w1 z iv);have D:=T ((qZ _ _).grown iv (qx _) (λk hk=>by cases hk));have N:=T z;clear z iv;have Q:G ((w:O)<=(w:O)):=qx _;go_loopw [13] (λl wr=> ∃(i:O) (zs:S la),l=(i:la)/\i<=n/\G (r' w w wr)/\G (xp wr w 319 2 (Z w n n) n zs)/\G (zs.take (i*2)=yC (Hn os (a.take i)))) (λl _=>n-(intOf l).toNat)
 ·exact⟨0,_,rfl,qp _,D,N,by simp [Hid,yC,Hn]⟩
 ·obtain⟨i,zs,rfl,I',g,b,d⟩:=hrel;by_cases W:i<n
  ·have O':=j' i n;obtain⟨ad,u,o,-,C,qj⟩:=(HS.below (g.mono cB)).at_ W;subst o;obtain⟨x,m,rfl⟩:=LX _ a i u C;have G':=ck x (zQ m);obtain⟨N6,u2,o,-,hh,u'⟩:=(H.below (g.mono X)).at_ G';subst o;obtain⟨y,r,rfl⟩:=LX _ _ x _ hh;have f:=b.out.1;unfold NV at qj;unfold Qb at u';obtain⟨o1,p1⟩:=VQ b (show i*2<n*2 by omega);obtain⟨o2,p2⟩:=VQ b (show i*2+1<n*2 by omega);have M':=j' x no;rw [qX M] at o1 o2;generalize zs[i*2]=z1,zs[i*2+1]=z2 at*;have P':=z' y (zQ r);have Q':IntKind.u64.wrap (y:V)=(y:V):=by rw [qS];omega
   have cL:G (yC (Hn os (a.take (i+1)))=yC (Hn os (a.take i))++[.int .u64 (y:V), .bool true]):=by
    have h1:a.take (i+1)=a.take i++[x]:=by rw [qs,m];rfl
    have h2:os.getD x 0=y:=by rw [qd,r];rfl
    rw [Hid,h1];unfold Hn;rw [qg,XA,List.map_singleton,Kx,h2];rfl
   have q1:=Uh (k:=i*2) b (.int .u64 (y:V));have q2:=Uh (k:=i*2+1) q1 true;have m':=T ((g.setCell (p:=⟨w,i*2,none⟩) Q (.int .u64 (y:V))).setCell (p:=⟨w,i*2+1,none⟩) Q true);have cK:G (((zs.set (i*2) (.int .u64 (y:V))).set (i*2+1) true).take ((i+1)*2)=yC (Hn os (a.take (i+1)))):=by
    have q:=d.out;rw [Hid,cL.out,show(i+1)*2=i*2+1+1 by omega,qs,qs,Qq (by rw [xE];omega),Z_ M,Qq M,List.take_set,List.take_set,q,
     Jo (by rw [xE,<-q,qh];omega),Jo (by rw [<-q,qh];omega)]
    simp
   have D':=T q2;clear q1 q2 d b C hh m r f;go_wp2_with fail;refine xk ?_;exact⟨i+1,_,xg,M,m',D',cK⟩
  ·have N':=vc i n;obtain rfl:i=n:=M;have f:=b.out.1;have d':G (zs=yC (Hn os a)):=by
    have:=d.out;rw [qH M,qH (by rw [p'.out];exact qx _)] at this;exact this
   clear d f;go_wp2;go_ret;exact⟨_,i,rfl,by rw [<-d'.out];exact b,g⟩
theorem Zx {size:O} {E:TypeId} {b:S la} (h:xp w base E size (Z A n c) n b) (e:0<n): ∃d,A=some ⟨d,0,none⟩:=by
 rcases h.2 with⟨a,h0⟩|⟨g,cap,cur,a,_⟩
 ·omega
 ·simp only [Ql] at a;exact⟨g,a.1⟩
theorem Ej: ∀(l:S (O×Bool)) (i:O) (x:O×Bool),l[i]? =some x->(yC l)[i*2]? =J (.int .u64 (x.1:V))/\(yC l)[i*2+1]? =J (.bool x.2)
 |[],i,x,h=>by simp at h
 |y::t,0,x,h=>by
  simp at h;subst h
  exact⟨rfl,rfl⟩
 |y::t,i+1,x,h=>by
  have:=Ej t i x (by simpa using h)
  show(Sn y++yC t)[(i+1)*2]? =_/\(Sn y++yC t)[(i+1)*2+1]? =_
  rw [qm (by show 2<=_;omega),qm (by show 2<=_;omega)]
  have e:U (Sn y)=2:=rfl;rw [e,show(i+1)*2-2=i*2 by omega,show(i+1)*2+1-2=i*2+1 by omega]
  exact this
theorem UH {i:O} {l:S (O×Bool)} (h:xp w base 319 2 (Z A n c) n (yC l)) (hi:i<n): ∃g x,A=some ⟨g,0,none⟩/\l[i]? =some x/\i' w ⟨g,i*2,none⟩=J (.int .u64 (x.1:V))/\i' w ⟨g,i*2+1,none⟩=J (.bool x.2):=by
 obtain⟨g,rfl⟩:=Zx h M;have b:=h.1;rw [PF] at b;have a:i<U l:=M;obtain⟨h1,h2⟩:=Ej l i _ (qX a);refine⟨g,l[i],rfl,qX a, ?_, ?_⟩
 ·rw [(VQ h (show i*2<n*2 by omega)).1,h1]
 ·rw [(VQ h (show i*2+1<n*2 by omega)).1,h2]
theorem tg (f:O) (x:O×Bool) (l r:S (O×Bool)) (h:U r<=1):da (f+1) (x::l) r=x::da f l r:=by
 match r,h with
 |[],_=>rfl
 |[a],_=>rfl
theorem mT (f:O) (r:S (O×Bool)) (h:U r<=1):da f [] r=[]:=by
 match f,r,h with
 |0,_,_=>rfl
 |f+1,[],_=>rfl
 |f+1,[a],_=>rfl
theorem bL (f:O) (l r:S (O×Bool)) (a b:O×Bool) (h: ∀x∈l.head?,¬x.1<=a.1+b.1):da (f+1) l (a::b::r)=(a.1+b.1,false)::da f l r:=by
 cases l with
 |nil=>rfl
 |cons x l=>
  show(if x.1<=a.1+b.1 then _ else _)=_;rw [qJ (h x s8)]
theorem SN (f:O) (l r:S (O×Bool)) (x a b:O×Bool) (h:x.1<=a.1+b.1):da (f+1) (x::l) (a::b::r)=x::da f l (a::b::r):=by
 show(if x.1<=a.1+b.1 then _ else _)=_;rw [qk h]
theorem Pg (w:I) (a b:la) (c:TypeId):E' (w (Y #[a,b] c)) ((w:O)+1) 2 w 1 [a,b]:=by
 refine⟨rfl,λ_=>⟨_,rfl,ze _,λj u d=> ?_⟩⟩;have e:((w:O):Addr).add j=⟨w,j,none⟩:=by unfold Addr.add;split<;>simp_all
 rw [e,(F'.new w c #[a,b]).cell j];simpa using d
theorem Ub {a b:la} (h1:a.oneCell'=true) (h2:b.oneCell'=true): ∀u∈[a,b],u.oneCell'=true:=by
 intro u c;rcases qL.1 c with rfl|c
 ·exact h1
 ·rw [qy.1 c];exact h2
theorem mw (Al Ar:q') (d cl j cr:O) (leaf row:S (O×Bool)) (w:I) (hl:xp w 0 319 2 (Z Al d cl) d (yC leaf)) (hr:xp w 0 319 2 (Z Ar j cr) j (yC row)) (hnl:d<=1000) (hnr:j<=2000) (N': ∀x∈row,x.1<=1000000000000):
  xG 206 #[Z Al d cl,Z Ar j cr] w λe w'=> ∃A' c',e=t' (Z A' (U (YY leaf row)) c')/\xp w' w 319 2 (Z A' (U (YY leaf row)) c') (U (YY leaf row)) (yC (YY leaf row))/\r' w w w':=by
 obtain⟨N,hi,C,D,K⟩:=qA Ez;have O':=T hl;have I':=T hr;have M':=T N';have qj:U leaf=d:=by have:=hl.1;rw [PF] at this;omega
 have X:U row=j:=by have:=hr.1;rw [PF] at this;omega
 have hquo:(j:V).tdiv 2=((j/2:O):V):=Y_ j 2;obtain⟨t,cK⟩:=zn (j/2);rw [<-cK] at hquo;have hnh2:t<=1000:=M;have hb1:N.bytes*(d+t)<=281474976710656:=by rw [K];omega
 have Y':d+t<=maxLen:=SJ;have m':(d:V)+(t:V)=((d+t:O):V):=M;revert hi C D K qj X cK m';refine KH ?_;intro hi C D K qj X cK m';clear hl hr N';go_in;go_wp2_with (at_make;refine QA _ rfl _ _ 314 rfl w 319 N (.agg #[.int .u64 0,false]) 2 QD hi C D .i64 .i64 _ (d+t) rfl rfl m' hb1 Y' (qx _) ?_;intro w1 N9 OX);have J':=T ((qZ _ _).grown OX (qx _) (λk hk=>by cases hk));have N6:=T N9;clear N9 OX;go_loopw [5,6,7] (λv5 v6 v7 wr=> ∃(i k m c f:O) (A:q') (h:S (O×Bool)),v5=Z A m c/\v6=(i:la)/\v7=(k:la)/\i<=d/\k<=j/\m<=i+k/\G (m=U h)/\G (d-i+(j-k)/2<=f)/\G (YY leaf row=h++da f (leaf.drop i) (row.drop k))/\G (xp wr w 319 2 (Z A m c) m (yC h))/\G (r' w w wr)) (λ_ v6 v7 _=>d+j-(intOf v6).toNat-(intOf v7).toNat)
 ·exact⟨0,0,0,d+t,d+t,_,[],rfl,rfl,rfl,qp _,qp _,qx _,rfl,by rw [Hid,cK.out];omega,by rw [Hid,cK.out,<-qj.out,<-X.out];rfl,N6,J'⟩
 ·obtain⟨i,k,m,c,f,A,h,rfl,rfl,rfl,hi_,hk_,hm_,R,L,p,o,g⟩:=hrel;have u:=T g.size;have cB:m+1<=maxLen:=SJ;have ck:(m+1)*16<=140737488355328:=M;by_cases hk1:k+1<j
  ·have Z':(k:V)+1<(j:V):=M;obtain⟨f,rfl⟩: ∃f',f=f'+1:=⟨f-1,by have:=L.out;omega⟩;obtain⟨gr,a,G',ha,a1,a2⟩:=UH (qG I' g) (show k<j by omega);subst G';obtain⟨S',b,G',hb,b1,b2⟩:=UH (qG I' g) hk1;obtain rfl:gr=S':=by simpa using G'
   have iL:row.drop k=a::b::row.drop (k+2):=by rw [yL ha,yL hb]
   have hwa:=M' a (zQ ha);have hwb:=M' b (zQ hb);rw [iL] at p;have HDA:=T iL;have hkn:=j' k j;have hk0:=xi k;have hk10:(0:V)<=(k:V)+1:=M;have wk:DW (k:V)=(k:V):=SX;have P':DW ((k:V)+1)=(k:V)+1:=SX;have ud:IntKind.u64.wrap ((a.1:V)+(b.1:V))=((a.1+b.1:O):V):=by rw [qS];omega
   clear a2 b2 ha hb iL;obtain⟨n,p'⟩:=zn (a.1+b.1);rw [<-p'] at ud;have d':=T p';clear p';generalize P:a.1=aw,uK:b.1=bw at*;replace P:=T P;replace uK:=T uK;by_cases D':i<d
   focus have u':=j' i d
   rotate_left
   focus have u':=vc i d
   rotate_left
   all_goals
    go_wp2;go_quiet (fail);have cY:G (xp (wr.drewN nq) w 319 2 (Z A m c) m (yC h)):=o.out;have H:G (r' w w (wr.drewN nq)):=dS g _;have iv:=T H.size;clear o g a1 b1 ud wk P';generalize wr.drewN nq=F at*;have o:=cY;have g:=H;have u:=iv
   focus
    obtain⟨gl,x,z',cL,x1,x2⟩:=UH (qG O' g) D';subst z';rw [yL cL] at p;have hx2:=T cL;clear cL;by_cases Q':x.1<=n
    ·have ih:G (YY leaf row=(h++[x])++da f (leaf.drop (i+1)) (row.drop k)):=by
      have:=p.out;rw [SN _ _ _ _ _ _ (by rw [P.out,uK.out,<-d'.out];exact Q')] at this;rw [Hid,this,HDA.out];simp
     have U':(x.1:V)<=(n:V):=M;have z:G (m+1=U (h++[x])):=by rw [Hid,qK,<-R.out];rfl
     have hh:G (d-(i+1)+(j-k)/2<=f):=by have:=L.out;rw [Hid];omega
     clear p;go_wp2_with (at_builtin;refine qF _ rfl (.tmp 66) (.tmp 71) 314 rfl w 319 N (.agg #[.int .u64 0,false]) 2 16 QD hi C D K rfl M A m c _ rfl (o.alloc _) ((F:O)+1) F 1 1 [.int .u64 (x.1:V), .bool x.2] rfl (Pg _ _ _ _) (Ub rfl rfl) cB ck (qv u s8) ?_;intro s r ln l q v;have B:=T (zG (g.alloc g.size _) q (o.alloc _) (qv g.size s8));replace l:=T l;clear q v);have E:G (xp ln w 319 2 (Z s (m+1) r) (m+1) (yC (h++[x]))):=by
      rw [Hid,XA,Kx];exact l.out
     go_wp2_with fail;refine xk ?_;exact⟨i+1,k,m+1,r,f,s,h++[x],s8,s8,s8,M,M,M,z,hh,ih,E,B⟩
    focus
     have ih:G (YY leaf row=(h++[(n,false)])++da f (leaf.drop i) (row.drop (k+2))):=by
      have:=p.out;rw [bL _ _ _ _ _ (λy hy=>by simp at hy;subst hy;rw [P.out,uK.out,<-d'.out];exact Q'),P.out,uK.out,<-d'.out] at this;rw [Hid,this,yL hx2.out];simp
     have U': ¬(x.1:V)<=(n:V):=M;have z:G (m+1=U (h++[(n,false)])):=by rw [Hid,qK,<-R.out];rfl
     have hh:G (d-i+(j-(k+2))/2<=f):=by have:=L.out;rw [Hid];omega
     clear p
   rotate_left
   focus
    have Q:leaf.drop i=[]:=zD (by rw [qj.out];omega);have ih:G (YY leaf row=(h++[(n,false)])++da f (leaf.drop i) (row.drop (k+2))):=by
     have:=p.out;rw [Q,bL _ _ _ _ _ (λy hy=>by simp at hy),P.out,uK.out,<-d'.out] at this;rw [Hid,this,Q];simp
    have z:G (m+1=U (h++[(n,false)])):=by rw [Hid,qK,<-R.out];rfl
    have hh:G (d-i+(j-(k+2))/2<=f):=by have:=L.out;rw [Hid];omega
    clear p Q
   all_goals
    go_wp2_with (at_builtin;refine qF _ rfl (.tmp 75) (.tmp 78) 314 rfl w 319 N (.agg #[.int .u64 0,false]) 2 16 QD hi C D K rfl M A m c _ rfl (o.alloc _) ((F:O)+1) F 1 1 [.int .u64 (n:V), .bool false] rfl (Pg _ _ _ _) (Ub rfl rfl) cB ck (qv u s8) ?_;intro s r ln l q v;have B:=T (zG (g.alloc g.size _) q (o.alloc _) (qv g.size s8));replace l:=T l;clear q v);have E:G (xp ln w 319 2 (Z s (m+1) r) (m+1) (yC (h++[(n,false)]))):=by
     rw [Hid,XA,Kx];exact l.out
    go_wp2_with fail;refine xk ?_;exact⟨i,k+2,m+1,r,f,s,h++[(n,false)],s8,s8,s8,M,M,M,z,hh,ih,E,B⟩
  ·have Z': ¬(k:V)+1<(j:V):=M;have W:U (row.drop k)<=1:=by rw [qI,X.out];omega
   by_cases D':i<d
   ·have u':=j' i d;obtain⟨gl,x,z',cL,x1,x2⟩:=UH (qG O' g) D';subst z';obtain⟨f,rfl⟩: ∃f',f=f'+1:=⟨f-1,by have:=L.out;omega⟩;have ih:G (YY leaf row=(h++[x])++da f (leaf.drop (i+1)) (row.drop k)):=by
     have:=p.out;rw [yL cL,tg _ _ _ _ W] at this;rw [Hid,this];simp
    have z:G (m+1=U (h++[x])):=by rw [Hid,qK,<-R.out];rfl
    have hh:G (d-(i+1)+(j-k)/2<=f):=by have:=L.out;rw [Hid];omega
    clear p cL W;go_wp2_with (at_builtin;refine qF _ rfl (.tmp 32) (.tmp 37) 314 rfl w 319 N (.agg #[.int .u64 0,false]) 2 16 QD hi C D K rfl M A m c _ rfl (o.alloc _) ((wr:O)+1) (wr:O) 1 1 [.int .u64 (x.1:V), .bool x.2] rfl (Pg _ _ _ _) (Ub rfl rfl) cB ck (qv u s8) ?_;intro s r ln l q v;have B:=T (zG (g.alloc g.size _) q (o.alloc _) (qv g.size s8));replace l:=T l;clear q v);have E:G (xp ln w 319 2 (Z s (m+1) r) (m+1) (yC (h++[x]))):=by
     rw [Hid,XA,Kx];exact l.out
    go_wp2_with fail;refine xk ?_;exact⟨i+1,k,m+1,r,f,s,h++[x],s8,s8,s8,M,M,M,z,hh,ih,E,B⟩
   ·have u':=vc i d;have Q:leaf.drop i=[]:=zD (by rw [qj.out];omega);have X':G (YY leaf row=h):=by
     have:=p.out;rw [Q,mT _ _ W,jx] at this;exact this
    clear p Q W;go_wp2;go_ret;rw [X'.out,<-R.out];exact⟨A,c,rfl,o,g⟩
theorem S9 {sym:V} (h:ra bs sym≠0): ∃k:O,sym=(k:V)/\k<U bs:=by
 unfold ra at h;by_cases h1:sym<0\/(U bs:V)<=sym
 ·rw [qk h1] at h;exact absurd rfl h
 ·exact⟨sym.toNat,M,M⟩
theorem Bv (W:I) (g lo hi:O) (bs:qn) (a:O) (t:TypeId) (rest:S la) (A:q') (cap:O) (s:Bw) (sym:V) (h:_e W g lo hi bs) (m:Wr W a t rest A cap s) (P:s.n<=900000000) (F: ∀k∈a::K' A,k<lo\/hi<=k):
  xG 122 #[mJ g,mJ a,sym] W (XX W a t rest A (e' (N3 bs sym)) (HU bs s sym)):=by
 have f:=T (Bx W g _ _ _ sym h);have D:=T m;have H:=T h;unfold N3 HU;by_cases h0:ra bs sym=0
 focus
  rw [qk h0,qk h0];rw [h0] at f;clear h m h0
 rotate_left
 focus
  rw [qJ h0,qJ h0];obtain⟨k,rfl,ln⟩:=S9 h0;rw [show(k:V).toNat=k from rfl];obtain⟨⟨Al,Ac,R,C,sv,E,_,⟨h2,o⟩,_⟩,ck,cK,ih⟩:=h;have c1:i' W ⟨g,1,none⟩=J (Z Ac bs C):=by rw [E.cell 1,ml]
  have cB:=(ZT ih).1;obtain⟨b,u,rfl,-,w,c⟩:=(E'.zY h2).at_ ln;obtain⟨x,q,rfl⟩:=LX _ _ _ _ w;have y:(Xt bs).getD k 0=x:=by rw [qd,q];rfl
  rw [y];unfold _h at c;have X:x<65536:=by
   have:=FW _ k _ (qX ln);rw [q] at this;have:=zy this;rw [this];split
   ·omega
   ·exact xC _ M
  obtain⟨d,v⟩:=zn (ra bs (k:V));rw [<-v] at f h0⊢;have l:=T (Bx _ g _ _ _ k (H.dr ⟨1,rfl⟩));rw [<-v] at l;have r:=T (V_ _ a t _ A _ s x (d:V) D.drew M P);have N:G (g∉a::K' A):=λe=>by have:=F g e;omega
  have Q:G (b.block∉a::K' A):=λe=>by have:=F _ e;have:=(zj h2 b.block (by simp [K'])).1;have:=o b.block (by simp [K']);omega
  unfold XX at r;have m':((d:V)==0)=false:=SZ;have cY:(k:V)<(U bs:V):=M;have qj:=xi k;have iv:IntKind.u64.wrap (x:V)=(x:V):=by rw [qS];omega
  generalize U bs=n at*;clear m E h2 o w q y ih v
 rotate_left
 all_goals
  go_in;go_wp2_with fail;refine Ω f ?_;go_wp2_with fail
 ·go_ret;exact⟨rfl,A,cap,D,XP.refl _ _ _⟩
 ·refine zv 14 (λW=>i' W ⟨g,1,none⟩=J (Z (some b) n C)/\i' W (b.add k)=J (.int .u16 x)) AL ⟨c1,c⟩ (λi=> ?_);refine zq [0,1,2,3,4,5] (a':= ?_) ?_;refine zq [6,7,8,9,10,11] (a':= ?_) ?_;refine vf 12 l ?_;rintro e w' ⟨rfl,rfl⟩;refine⟨_,rfl,(i),λi=> ?_⟩;refine vf 13 r ?_;rintro e w' ⟨rfl,cL,uK,z,j⟩;refine⟨_,rfl,(⟨j.jZ.cell (p:=⟨g,1,none⟩) N c1,j.jZ.cell (by rw [xF];exact Q) c⟩),λi=> ?_⟩;refine j4 14 rfl AL FV SQ (λK B=> ?_);go_simp;refine B _ _ ?_;clear B K;try simp only [Act.put,qQ,qY,qV]
  refine zV AL ?_ _;have L:=T ((XP.refl W a A).drew.trans j);have hh:=T z;clear i j z c1 c;go_wp2;go_ret;exact⟨rfl,cL,uK,hh,L⟩
theorem _e.len {g lo hi l:O} (h:_e W g lo hi bs) (a:l<16):i' W ⟨g,2+l,none⟩=J (e' (Ho bs l))/\i' W ⟨g,18+l,none⟩=J (e' (H4 bs l))/\
  ∃A c,i' W ⟨g,34+l,none⟩=J (Z A (H4 bs l) c)/\xp W lo 3 1 (Z A (H4 bs l) c) (H4 bs l) ((Fs bs l).map NV):=by
 obtain⟨⟨f,Ac,i,j,s,b,_,_,h3⟩,_,_,_⟩:=h;obtain⟨A,c,e,d,_⟩:=h3 l a;exact⟨by rw [b.cell,mL _ _ _ _ _ a],by rw [b.cell,m8 _ _ _ _ _ a],A,c,by rw [b.cell,Cg _ _ _ _ _ a,e],d⟩
theorem F0 (l:O): ∀(bs:qn) (i:O),U (J6 l i bs)<=U bs
 |[],i=>qx _
 |x::t,i=>by
  unfold J6;have:=F0 l t (i+1);split<;>simp<;>omega
theorem uh (l:O): ∀(bs:qn) (i x:O),x∈J6 l i bs->i<=x/\x<i+U bs
 |[],i,x,h=>by simp [J6] at h
 |y::t,i,x,h=>by
  unfold J6 at h;rw [qf];split at h
  ·rcases qL.1 h with h|h
   ·omega
   ·have:=uh l t _ x h;omega
  ·have:=uh l t _ x h;omega
theorem WG (bs:qn) (l:O):H4 bs l<=U bs:=by
 unfold H4 Fs;split
 ·exact qp _
 ·exact F0 l _ 0
theorem Ek (bs:qn) (i:O):(Xt bs).getD i 0<65536:=by
 rw [qd];by_cases hi:i<U bs
 ·rw [FW bs i _ (qX hi)];show(if _ then _ else _)<_;split
  ·omega
  ·exact xC _ M
 ·rw [qO (by rw [PD];omega)];show 0<_;omega
theorem Ep (bs:qn) (l:O):Ho bs l<65536:=by
 unfold Ho;split
 ·omega
 ·exact Ek _ _
def Wh (bs:qn) (x l:O):Value:=match SC bs x l with|some s=> BA #[s,true]|none=> BA #[(),false]
theorem tO (W:I) (g lo hi:O) (bs:qn) (x l:O) (h:_e W g lo hi bs) (p:l<16) (v:x<65536):
  xG 298 #[mJ g, .int .u64 x,l] W λe o=>e=t' (Wh bs x l)/\W=o:=by
 obtain⟨c1,c2,A,c,s,d⟩:=h.len p;have hF:=Ep bs l;have w:=WG bs l;have B:=(ZT h.ok).1;have m:Wh bs x l=if x<Ho bs l\/H4 bs l<=x-Ho bs l then BA #[(),false] else BA #[e' ((Fs bs l).getD (x-Ho bs l) 0:O),true]:=by
  unfold Wh SC;split
  ·rename_i h1 h2;split at h2
   ·cases h2
   ·rename_i h3;rw [qJ h3];rw [<-zy h2]
  ·rename_i h2;split at h2
   ·rename_i h3;rw [qk h3]
   ·cases h2
 rw [m];have t:(l:V)<16:=M;have u:DW (x:V)=(x:V):=SX;have b:G (U (Fs bs l)=H4 bs l):=rfl;generalize z:Ho bs l=F,E:H4 bs l=K at*;clear h m;by_cases h1:x<F
 ·have H:(x:V)-(F:V)<0:=M;rw [qk (.inl h1)];go_wp2;go_ret2;exact⟨rfl,rfl⟩
 ·obtain⟨k,i⟩:=zn (x-F);have C:(x:V)-(F:V)=(k:V):=M;rw [<-i];replace i:=T i;by_cases h2:K<=k
  ·have r:=vv K k;rw [qk (.inr h2)];clear h1;go_wp2;go_ret2;exact⟨rfl,rfl⟩
  ·have r:=K6 K k;have a:k<K:=M;obtain⟨n,rfl⟩:=Zx d M;have f:=(xU d a).1;rw [qD,qX (by rw [b.out];exact a)] at f;have j:(Fs bs l).getD k 0=(Fs bs l)[k]'(by rw [b.out];exact a):=by rw [qd,qX (by rw [b.out];exact a)];rfl
   rw [qJ M,j];generalize (Fs bs l)[k]'(by rw [b.out];exact a)=q at*;have D:i' W ⟨n,k,none⟩=J (q:la):=f;have y:=j' k K;clear h1 h2 f d j;go_wp2;go_ret2;exact⟨rfl,rfl⟩
theorem Gt (bs:qn) (x l:O) (f:O):Z2 bs x l (f+1)=(Z2 bs x l f||(decide (0<H4 bs (l+(f+1)))&&(decide (x*2^(f+1)<Ho bs (l+(f+1))+H4 bs (l+(f+1)))&&decide (Ho bs (l+(f+1))<x*2^(f+1)+2^(f+1))))):=rfl
theorem Ch (W:I) (g lo hi:O) (bs:S AB) (x l:O) (h:_e W g lo hi bs) (hl:l<=15) (z:x<65536):
  xG 300 #[mJ g, .int .u64 x,l] W λe C=>e=t' (.bool (uQ bs x l))/\Dr W C:=by
 have H:=T h;have s:=(ZT h.ok).1;have D:U bs<=300:=s;have P:DW (x:V)=(x:V):=SX;clear h s;go_enter func300,ntmps300
 go_wp2_with fail;go_loopw [7] (λo wr=> ∃(f k:O),o=(k:la)/\k<=16/\G (k=l+(f+1))/\G (Z2 bs x l f=false)/\G (Dr W wr)) (λo _=>16-(intOf o).toNat)
 case atStart=>exact⟨0,l+1,by first|rfl|go_num|simp,M,rfl,rfl,Dr.refl _⟩
 case round=>
  obtain⟨f,k,rfl,hk,i,q,m⟩:=hrel;by_cases y:k<16
  ·have iL:(k:V)<=15:=M
   have d':(k:V)<16:=M;have cL:(0:V)<=(k:V):=M;obtain⟨c1,c2,_⟩:=(H.dr m).len y;have hF:=Ep bs k;have R:=qv (WG bs k) D;have b:=Gt bs x l f;rw [q.out,Bool.false_or,<-i.out] at b;have u:f+1<=15:=by have:=i.out;omega
   have t:2^(f+1)<=2^15:=zZ M u;have w:x*2^(f+1)<=65536*2^15:=xA (zr z) t;have A:(2:O)^15=32768:=rfl;rw [A] at t w;have hh:(k:V)-(l:V)=((f+1:O):V):=by have:=i.out;omega
   have cK:wrap64 ((x:V)*((2^(f+1):O):V))=((x*2^(f+1):O):V):=by
    rw [<-zB];exact Kr _ M
   have E:(2:V)^(f+1)=((2^(f+1):O):V):=by rw [j6];rfl
   generalize x*2^(f+1)=a at*
   generalize 2^(f+1)=c at*
   obtain⟨d,n⟩: ∃d,d=f+1:=⟨_,rfl⟩;rw [<-n] at hh E u;replace n:=T n;generalize Ho bs k=F at*
   generalize H4 bs k=uK at*
   have cB:DW (k:V)=(k:V):=SX;have iv:DW (d:V)=(d:V):=SX;have cY:DW (c:V)=(c:V):=SX;have X:DW (a:V)=(a:V):=SX;have Q:DW ((F:V)+(uK:V))=(F:V)+(uK:V):=SX;have p':DW ((a:V)+(c:V))=(a:V)+(c:V):=SX;by_cases h1:0<uK
   focus
    have N:(0:V)<(uK:V):=M
    have qj:decide (0<uK)=true:=qw h1;by_cases h2:a<F+uK
    focus
     have v:(a:V)<(F:V)+(uK:V):=M
     have ck:decide ((a:V)<(F:V)+(uK:V))=true:=qw v;have B:decide (a<F+uK)=true:=qw h2;by_cases h3:F<a+c
     focus
      have r:(F:V)<(a:V)+(c:V):=M
      have m':decide ((F:V)<(a:V)+(c:V))=true:=qw r;have ih:decide (F<a+c)=true:=qw h3;have p:G (uQ bs x l=true):=by
       have L:Z2 bs x l (f+1)=true:=by rw [b,qw h1,qw h2,qw h3];rfl
       have K: ∀e,Z2 bs x l (f+1+e)=true:=λe=>by
        induction e with
        |zero=>exact L
        |succ e ln=>show(Z2 bs x l (f+1+e)||_)=true;rw [ln];rfl
       have:=K (15-l-(f+1));rw [show f+1+(15-l-(f+1))=15-l by have:=i.out;omega] at this
       exact this
      clear b
     rotate_left
     focus
      have r:decide ((F:V)<(a:V)+(c:V))=false:=qc M
      have ih:decide (F<a+c)=false:=qc h3;have b:=T (show Z2 bs x l (f+1)=false by rw [b,qc h3];simp)
     rotate_left
    rotate_left 2
    focus
     have v:decide ((a:V)<(F:V)+(uK:V))=false:=qc M
     have B:decide (a<F+uK)=false:=qc h2;have b:=T (show Z2 bs x l (f+1)=false by rw [b,qc h2];simp)
    rotate_left
   rotate_left 3
   focus
    obtain rfl:uK=0:=M
    have N:decide ((0:V)<0)=false:=rfl;have b:=T (show Z2 bs x l (f+1)=false by rw [b];rfl)
    clear h1
   rotate_left
   all_goals
    go_wp2_with fail;go_quiet (fail)
    have j:G (Dr W (wr.drewN nq)):=m.drewN nq
    go_wp2_with fail
   ·go_ret;exact⟨by rw [p.out];rfl,j.out⟩
   rotate_left
   rotate_left
   all_goals
    go_roundw
    case rel=>exact⟨f+1,k+1,by first|rfl|simp,M,by have:=i.out;rw [Hid];omega,by rw [Hid,b.out],j⟩
    case measure=>simp [intOf];omega
  ·obtain rfl:k=16:=M
   have p:G (uQ bs x l=false):=by
    unfold uQ;rw [Hid,show 15-l=f by have:=i.out;omega,q.out]
   go_wp2_with fail;go_ret;exact⟨by rw [p.out];rfl,m.out⟩
theorem m9 {a:O} (h:k<=kq b a):Po b a (k:V)=0/\Hj b a (k:V)=a+k:=by
 have c:Po b a (k:V)=0:=by unfold Po;rw [qJ M,qJ M]
 unfold Hj;rw [c];exact⟨rfl,qk rfl⟩
theorem S_ {g:O} {A:q'} {N cap at_:O} (h:Rd W g A N cap b at_) (a:k<=kq b at_):
  xG 299 #[mJ g,k] W (JD W g A N cap b () (at_+k)):=by
 have:=Sw W g A N _ _ b (k:V) h;obtain⟨h1,h2⟩:=m9 a;rw [h1,h2] at this;exact this
def nz (W:I) (a:O) (A:q') (N cap:O) (b:qn) (bs:qn) (at_:O):Ending->I->Prop:=JD W a A N cap b (BA #[e' (b9 bs b at_),e' (G5 bs b at_)]) (Hr bs b at_)
theorem By (W:I) (g lo hi:O) (bs:S AB) (w:O) (A:Option Addr) (N cap at_:O) (b:S AB) (h:_e W g lo hi bs) (L:Rd W w A N cap b at_):
  xG 285 #[mJ g,mJ w] W (nz W w A N cap b bs at_):=by
 have H:=T h;have E:=T L;have B:=T (SW W w A N cap at_ 15 b M L);have cK:min 15 (kq b at_)=AD b at_:=rfl;rw [cK] at B;have ih:=Zr b at_ 15;have n:DR bs b at_=Kg bs (kM b at_ 15) (AD b at_) 15 1:=rfl;have cB:AD b at_<=15:=xK _ _;have u':AD b at_<=kq b at_:=Nat.min_le_right _ _;have q:DR bs b at_=none->G5 bs b at_=(if AD b at_<15/\uQ bs (kM b at_ 15/2^(15-AD b at_)) (AD b at_)=true then 1 else 7)/\b9 bs b at_= -1/\Hr bs b at_=at_:=λe=>by
  unfold G5 b9 Hr;rw [e];exact⟨rfl,rfl,rfl⟩
 have D: ∀s l,DR bs b at_=J (s,l)->G5 bs b at_=0/\b9 bs b at_=(s:V)/\Hr bs b at_=at_+l:=λs l e=>by
  unfold G5 b9 Hr;rw [e];exact⟨rfl,rfl,rfl⟩
 replace q:=T q;replace D:=T D;unfold nz;generalize DR bs b at_=Q at*
 obtain⟨a,X⟩: ∃a,a=AD b at_:=⟨_,rfl⟩;rw [<-X] at B n cB u' q;obtain⟨x,qj⟩: ∃x,x=kM b at_ 15:=⟨_,rfl⟩;rw [<-qj] at B n ih q;have OX:x<32768:=ih;replace n:=T n;clear h L cK X qj ih;go_enter func285,ntmps285
 go_wp2_with fail;refine B.mono ?_;rintro e cL ⟨rfl,iv⟩;have m:=T iv;clear iv B
 go_wp2_with fail;go_loopw [8] (λln wr=> ∃(f l:O),ln=(l:la)/\1<=l/\l<=16/\l<=a+1/\G (f+l=16)/\G (Q=Kg bs x a f l)/\cL=wr) (λln _=>17-(intOf ln).toNat)
 case atStart=>exact⟨15,1,rfl,M,M,M,rfl,n,rfl⟩
 case round=>
  obtain⟨f,l,rfl,I',G',O',cY,v,rfl⟩:=hrel;by_cases J':l<=a
  ·have N':(l:V)<=(a:V):=M
   obtain⟨f,rfl⟩: ∃f',f=f'+1:=⟨f-1,by have:=cY.out;omega⟩
   have y:x/2^(15-l)<65536:=vQ (xr _ _) M;have o:=T (tO cL g lo hi bs (x/2^(15-l)) l (H.dr m) M y);have ck:=Pd x (15-l);have z':(15:V)-(l:V)=((15-l:O):V):=M;have c:=v.out;unfold Kg at c;rw [qJ M] at c;have r:15-l<15:=M;unfold Wh at o;generalize x/2^(15-l)=hh at*
   generalize 15-l=d' at*
   cases F:SC bs hh l with
   |some s=>
    rw [F] at c o;obtain⟨d,j,i⟩:=D.out s l c;have K:=T (S_ (E.dr m) (k:=l) M);unfold JD at K;replace d:=T d;replace j:=T j;replace i:=T i;clear c v F y
    go_wp2_with fail;refine o.mono ?_;rintro e uK ⟨rfl,rfl⟩
    go_wp2_with fail;refine K.mono ?_;rintro e w3 ⟨rfl,P,R⟩;have m':=T P;have p':=T ((Zp (l:=[w]) m).then R);clear K P R o
    go_wp2_with fail
    go_ret2;rw [d.out,j.out,i.out];exact⟨rfl,m'.out,p'.out⟩
   |none=>
    rw [F] at c o;replace c:=T c;clear v F y
    go_wp2_with fail;refine o.mono ?_;rintro e uK ⟨rfl,rfl⟩
    go_wp2_with fail;go_roundw
    case rel=>exact⟨f,l+1,by first|rfl|simp,M,M,M,by have:=cY.out;rw [Hid];omega,c,trivial⟩
    case measure=>simp [intOf];omega
  ·have M': ¬(l:V)<=(a:V):=M
   have iL:Q=none:=by
    rw [v.out];cases f with
    |zero=>rfl
    |succ f=>unfold Kg;rw [qk M]
   obtain⟨d,j,i⟩:=q.out iL;replace d:=T d;replace j:=T j;replace i:=T i;clear v n q D;have D':(a=15)\/a<15:=M;rcases D' with r|r
   ·subst r
    have C:G (G5 bs b at_=7):=by rw [Hid,d.out,qJ M]
    go_wp2_with fail
    go_ret2;rw [C.out,j.out,i.out];exact⟨rfl,E.dr m,Zp m⟩
   ·have N9:(a:V)<15:=M
    have y:x/2^(15-a)<65536:=vQ (xr _ _) M;have p:=T (Ch cL g lo hi bs (x/2^(15-a)) a (H.dr m) M y);have ck:=Pd x (15-a);have z':(15:V)-(a:V)=((15-a:O):V):=M;have N6:15-a<16:=M;generalize x/2^(15-a)=hh at*
    generalize 15-a=d' at*
    cases t:uQ bs hh a
    focus rw [t] at p;have C:G (G5 bs b at_=7):=by rw [Hid,d.out,t,qJ s8]
    rotate_left
    focus rw [t] at p;have C:G (G5 bs b at_=1):=by rw [Hid,d.out,qk ⟨r,t⟩]
    all_goals
     clear t r
     go_wp2_with fail;refine p.mono ?_;rintro e uK ⟨rfl,u⟩;have z:=T (m.trans u);clear u p
     go_wp2_with fail
     go_ret2;rw [C.out,j.out,i.out];exact⟨rfl,E.dr z,Zp z⟩
end Go.Proofs.YtfnlfpcfkbdcmaaGreatDoor
