import Derived.Test.YtfnlfpcfkbdcmaaGreatDoorL12
import Derived.Test.YtfnlfpcfkbdcmaaGreatDoorL13
import Derived.Test.YtfnlfpcfkbdcmaaGreatDoorL14
import Derived.Deep.SlicePairs
set_option linter.unusedSimpArgs false
set_option linter.unusedVariables false
set_option maxRecDepth 100000
set_option maxHeartbeats 0
open Go.Proofs.Tryz
namespace Go.Proofs.YtfnlfpcfkbdcmaaGreatDoor
open Go.RowKit
section
variable {A:q'}{E:TypeId}{W w:World}{b bs:qn}{base c g k n size:Nat}{xs:List Value}
def Sn (x:Nat×Bool):List Value:=[.int .u64 (x.1:Int), .bool x.2]
def yC (l:List (Nat×Bool)):List Value:=(l.map Sn).flatten
theorem XA (a b:List (Nat×Bool)):yC (a++b)=yC a++yC b:=by simp [yC]
theorem Kx (x:Nat×Bool):yC [x]=Sn x:=by simp [yC]
theorem PF: ∀l:List (Nat×Bool),(yC l).length=l.length*2
 |[]=>rfl
 |x::t=>by
  show(Sn x++yC t).length=_
  rw [qK,PF t,qf];show 2+_=_;omega
theorem Ez:(prog.info? 319).map (λi=>(i.zero,i.size,i.bytes))=some (some (.agg #[.int .u64 0,false]),2,16):=AL
theorem FO (h:w.ownsRow base E size (.slice g n c) n xs):base<=g/\n<=c/\c<=maxLen/\xs.length=n*size/\ ∃b,Blk w g E b/\b.size=c*size/\b.toList.take (n*size)=xs:=by
 obtain⟨f,h0|⟨k,cap,cur,a,e,d,h1,h2,h3,h4⟩⟩:=h
 ·cases h0.1
 ·injection a with a j i;injection a with a;injection a with a;subst a;subst i;exact⟨e,h1,h2,f,_,d,h3,h4⟩
theorem VQ (h:w.ownsRow base E size (.slice g n c) n xs) (b:k<n*size):w.cell? ⟨g,k,none⟩=xs[k]? /\w.frozen? ⟨g,k,none⟩=false:=by
 obtain⟨_,_,_,_,e,a,d,ht⟩:=FO h;refine⟨?_,a.frozen k⟩;rw [a.cell k,<-ht,xZ,qk b,Array.getElem?_toList]
theorem Uh (h:w.ownsRow base E size (.slice g n c) n xs) (u:Value):(w.setCell ⟨g,k,none⟩ u).ownsRow base E size (.slice g n c) n (xs.set k u):=by
 obtain⟨a,h1,h2,b,f,d,e,ht⟩:=FO h;refine⟨by rw [xE];exact b, .inr ⟨g,c,_,rfl,a,d.zh k u,h1,h2,by rw [yg];exact e, ?_⟩⟩;rw [Array.toList_setIfInBounds,List.take_set,ht]
theorem tF (F K:q') (no co B n c L:Nat) (os a:List Nat) (w:World) (h:Reads w B 1 F no (os.map C32)) (P:B<=w.heap.size) (t:Reads w L 1 K n (a.map NV)) (I:L<=w.heap.size) (N9:no<=1000) (hn:n<=1000) (G: ∀x∈a,x<no) (R: ∀x∈os,x<4294967296):
  Calls prog 205 #[.slice F no co, .slice K n c] w λe w'=> ∃E A,e= .returned (.slice E n A)/\w'.ownsRow w 319 2 (.slice E n A) n (yC (pr os a))/\Below w w w':=by
 obtain⟨M,hi,s,j,v⟩:=qA Ez;have H:=qj h;have HS:=qj t;have X:=qj P;have Z:=qj I;have p':=qj t.len;have Y:=qj G;have z':=qj R;have V:M.bytes*n<=281474976710656:=by rw [v];omega
 have iL:n<=maxLen:=SJ;revert hi s j;refine vn ?_;intro hi s j;clear h P t I G R;go_in;go_wp2_with (at_make;refine xP _ rfl _ _ 314 rfl w 319 M (.agg #[.int .u64 0,false]) 2 QD hi s j .i64 .i64 _ _ n rfl rfl rfl rfl V iL (qx _) ?_;intro w1 z S);have D:=qj ((qZ _ _).grown S (qx _) (λk hk=>by cases hk));have N:=qj z;clear z S;have Q:Hid (w.heap.size<=w.heap.size):=qx _;go_loopw [13] (λl wr=> ∃(i:Nat) (zs:List Value),l=(i:Value)/\i<=n/\Hid (Below w w wr)/\Hid (wr.ownsRow w 319 2 (.slice w n n) n zs)/\Hid (zs.take (i*2)=yC (pr os (a.take i)))) (λl _=>n-(intOf l).toNat)
 ·exact⟨0,_,rfl,qp _,D,N,by simp [Hid,yC,pr]⟩
 ·obtain⟨i,zs,rfl,I',g,b,d⟩:=hrel;by_cases W:i<n
  ·have O':=j' i n;obtain⟨ad,u,o,-,C,T⟩:=(HS.below (g.mono Z)).at_ W;subst o;obtain⟨x,m,rfl⟩:=get_map _ a i u C;have G':=Y x (zQ m);obtain⟨N6,u2,o,-,J,u'⟩:=(H.below (g.mono X)).at_ G';subst o;obtain⟨y,r,rfl⟩:=get_map _ _ x _ J;have f:=b.out.1;unfold NV at T;unfold C32 at u';obtain⟨o1,p1⟩:=VQ b (show i*2<n*2 by omega);obtain⟨o2,p2⟩:=VQ b (show i*2+1<n*2 by omega);have M':=j' x no;rw [qX uK] at o1 o2;generalize zs[i*2]=z1,zs[i*2+1]=z2 at*;have P':=z' y (zQ r);have Q':IntKind.u64.wrap (y:Int)=(y:Int):=by rw [qS];omega
   have O:Hid (yC (pr os (a.take (i+1)))=yC (pr os (a.take i))++[.int .u64 (y:Int), .bool true]):=by
    have h1:a.take (i+1)=a.take i++[x]:=by rw [qs,m];rfl
    have h2:os.getD x 0=y:=by rw [qd,r];rfl
    rw [Hid,h1];unfold pr;rw [qg,XA,List.map_singleton,Kx,h2];rfl
   have q1:=Uh (k:=i*2) b (.int .u64 (y:Int));have q2:=Uh (k:=i*2+1) q1 true;have m':=qj ((g.setCell (p:=⟨w,i*2,none⟩) Q (.int .u64 (y:Int))).setCell (p:=⟨w,i*2+1,none⟩) Q true);have U:Hid (((zs.set (i*2) (.int .u64 (y:Int))).set (i*2+1) true).take ((i+1)*2)=yC (pr os (a.take (i+1)))):=by
    have q:=d.out;rw [Hid,O.out,show(i+1)*2=i*2+1+1 by omega,qs,qs,Qq (by rw [xE];omega),Z_ uK,Qq uK,List.take_set,List.take_set,q,
     Jo (by rw [xE,<-q,qh];omega),Jo (by rw [<-q,qh];omega)]
    simp
   have D':=qj q2;clear q1 q2 d b C J m r f;go_wp2_with fail;refine xk ?_;exact⟨i+1,_,xb,uK,m',D',U⟩
  ·have N':=vv i n;obtain rfl:i=n:=uK;have f:=b.out.1;have d':Hid (zs=yC (pr os a)):=by
    have:=d.out;rw [qH uK,qH (by rw [p'.out];exact qx _)] at this;exact this
   clear d f;go_wp2;go_ret;exact⟨_,i,rfl,by rw [<-d'.out];exact b,g⟩
theorem Zx {size:Nat} {E:TypeId} {b:List Value} (h:w.ownsRow base E size (.slice A n c) n b) (e:0<n): ∃d,A=some ⟨d,0,none⟩:=by
 rcases h.2 with⟨a,h0⟩|⟨g,cap,cur,a,_⟩
 ·omega
 ·simp only [Ql] at a;exact⟨g,a.1⟩
theorem Ej: ∀(l:List (Nat×Bool)) (i:Nat) (x:Nat×Bool),l[i]? =some x->(yC l)[i*2]? =some (.int .u64 (x.1:Int))/\(yC l)[i*2+1]? =some (.bool x.2)
 |[],i,x,h=>by simp at h
 |y::t,0,x,h=>by
  simp at h;subst h
  exact⟨rfl,rfl⟩
 |y::t,i+1,x,h=>by
  have:=Ej t i x (by simpa using h)
  show(Sn y++yC t)[(i+1)*2]? =_/\(Sn y++yC t)[(i+1)*2+1]? =_
  rw [qm (by show 2<=_;omega),qm (by show 2<=_;omega)]
  have e:(Sn y).length=2:=rfl;rw [e,show(i+1)*2-2=i*2 by omega,show(i+1)*2+1-2=i*2+1 by omega]
  exact this
theorem UH {i:Nat} {l:List (Nat×Bool)} (h:w.ownsRow base 319 2 (.slice A n c) n (yC l)) (hi:i<n): ∃g x,A=some ⟨g,0,none⟩/\l[i]? =some x/\w.cell? ⟨g,i*2,none⟩=some (.int .u64 (x.1:Int))/\w.cell? ⟨g,i*2+1,none⟩=some (.bool x.2):=by
 obtain⟨g,rfl⟩:=Zx h uK;have b:=h.1;rw [PF] at b;have a:i<l.length:=uK;obtain⟨h1,h2⟩:=Ej l i _ (qX a);refine⟨g,l[i],rfl,qX a, ?_, ?_⟩
 ·rw [(VQ h (show i*2<n*2 by omega)).1,h1]
 ·rw [(VQ h (show i*2+1<n*2 by omega)).1,h2]
theorem tg (f:Nat) (x:Nat×Bool) (l r:List (Nat×Bool)) (h:r.length<=1):ZN (f+1) (x::l) r=x::ZN f l r:=by
 match r,h with
 |[],_=>rfl
 |[a],_=>rfl
theorem mT (f:Nat) (r:List (Nat×Bool)) (h:r.length<=1):ZN f [] r=[]:=by
 match f,r,h with
 |0,_,_=>rfl
 |f+1,[],_=>rfl
 |f+1,[a],_=>rfl
theorem bL (f:Nat) (l r:List (Nat×Bool)) (a b:Nat×Bool) (h: ∀x∈l.head?,¬x.1<=a.1+b.1):ZN (f+1) l (a::b::r)=(a.1+b.1,false)::ZN f l r:=by
 cases l with
 |nil=>rfl
 |cons x l=>
  show(if x.1<=a.1+b.1 then _ else _)=_;rw [qJ (h x s8)]
theorem SN (f:Nat) (l r:List (Nat×Bool)) (x a b:Nat×Bool) (h:x.1<=a.1+b.1):ZN (f+1) (x::l) (a::b::r)=x::ZN f l (a::b::r):=by
 show(if x.1<=a.1+b.1 then _ else _)=_;rw [qk h]
theorem Pg (w:World) (a b:Value) (c:TypeId):Reads (w.alloc (.cells #[a,b] c)) (w.heap.size+1) 2 w 1 [a,b]:=by
 refine⟨rfl,λ_=>⟨_,rfl,ze _,λj u d=> ?_⟩⟩;have e:(w.heap.size:Addr).add j=⟨w,j,none⟩:=by unfold Addr.add;split<;>simp_all
 rw [e,(Blk.new w c #[a,b]).cell j];simpa using d
theorem Ub {a b:Value} (h1:a.oneCell'=true) (h2:b.oneCell'=true): ∀u∈[a,b],u.oneCell'=true:=by
 intro u c;rcases qL.1 c with rfl|c
 ·exact h1
 ·rw [qy.1 c];exact h2
theorem mw (Al Ar:q') (d cl j cr:Nat) (leaf row:List (Nat×Bool)) (w:World) (hl:w.ownsRow 0 319 2 (.slice Al d cl) d (yC leaf)) (hr:w.ownsRow 0 319 2 (.slice Ar j cr) j (yC row)) (hnl:d<=1000) (hnr:j<=2000) (N': ∀x∈row,x.1<=1000000000000):
  Calls prog 206 #[.slice Al d cl, .slice Ar j cr] w λe w'=> ∃A' c',e= .returned (.slice A' (YY leaf row).length c')/\w'.ownsRow w 319 2 (.slice A' (YY leaf row).length c') (YY leaf row).length (yC (YY leaf row))/\Below w w w':=by
 obtain⟨N,hi,C,D,K⟩:=qA Ez;have O':=qj hl;have I':=qj hr;have M':=qj N';have T:leaf.length=d:=by have:=hl.1;rw [PF] at this;omega
 have X:row.length=j:=by have:=hr.1;rw [PF] at this;omega
 have hquo:(j:Int).tdiv 2=((j/2:Nat):Int):=Y_ j 2;obtain⟨t,U⟩:=j1 (j/2);rw [<-U] at hquo;have hnh2:t<=1000:=uK;have hb1:N.bytes*(d+t)<=281474976710656:=by rw [K];omega
 have Y':d+t<=maxLen:=SJ;have m':(d:Int)+(t:Int)=((d+t:Nat):Int):=uK;revert hi C D K T X U m';refine KH ?_;intro hi C D K T X U m';clear hl hr N';go_in;go_wp2_with (at_make;refine QA _ rfl _ _ 314 rfl w 319 N (.agg #[.int .u64 0,false]) 2 QD hi C D .i64 .i64 _ (d+t) rfl rfl m' hb1 Y' (qx _) ?_;intro w1 N9 OX);have J':=qj ((qZ _ _).grown OX (qx _) (λk hk=>by cases hk));have N6:=qj N9;clear N9 OX;go_loopw [5,6,7] (λv5 v6 v7 wr=> ∃(i k m c f:Nat) (A:q') (h:List (Nat×Bool)),v5= .slice A m c/\v6=(i:Value)/\v7=(k:Value)/\i<=d/\k<=j/\m<=i+k/\Hid (m=h.length)/\Hid (d-i+(j-k)/2<=f)/\Hid (YY leaf row=h++ZN f (leaf.drop i) (row.drop k))/\Hid (wr.ownsRow w 319 2 (.slice A m c) m (yC h))/\Hid (Below w w wr)) (λ_ v6 v7 _=>d+j-(intOf v6).toNat-(intOf v7).toNat)
 ·exact⟨0,0,0,d+t,d+t,_,[],rfl,rfl,rfl,qp _,qp _,qx _,rfl,by rw [Hid,U.out];omega,by rw [Hid,U.out,<-T.out,<-X.out];rfl,N6,J'⟩
 ·obtain⟨i,k,m,c,f,A,h,rfl,rfl,rfl,hi_,hk_,hm_,R,L,p,o,g⟩:=hrel;have u:=qj g.size;have Z:m+1<=maxLen:=SJ;have Y:(m+1)*16<=140737488355328:=uK;by_cases hk1:k+1<j
  ·have Z':(k:Int)+1<(j:Int):=uK;obtain⟨f,rfl⟩: ∃f',f=f'+1:=⟨f-1,by have:=L.out;omega⟩;obtain⟨gr,a,G',ha,a1,a2⟩:=UH (qG I' g) (show k<j by omega);subst G';obtain⟨S',b,G',hb,b1,b2⟩:=UH (qG I' g) hk1;obtain rfl:gr=S':=by simpa using G'
   have iL:row.drop k=a::b::row.drop (k+2):=by rw [yL ha,yL hb]
   have hwa:=M' a (zQ ha);have hwb:=M' b (zQ hb);rw [iL] at p;have HDA:=qj iL;have hkn:=j' k j;have hk0:=xi k;have hk10:(0:Int)<=(k:Int)+1:=uK;have wk:IntKind.i64.wrap (k:Int)=(k:Int):=SX;have P':IntKind.i64.wrap ((k:Int)+1)=(k:Int)+1:=SX;have ud:IntKind.u64.wrap ((a.1:Int)+(b.1:Int))=((a.1+b.1:Nat):Int):=by rw [qS];omega
   clear a2 b2 ha hb iL;obtain⟨n,p'⟩:=j1 (a.1+b.1);rw [<-p'] at ud;have d':=qj p';clear p';generalize P:a.1=aw,M:b.1=bw at*;replace P:=qj P;replace M:=qj M;by_cases D':i<d
   focus have u':=j' i d
   rotate_left
   focus have u':=vv i d
   rotate_left
   all_goals
    go_wp2;go_quiet (fail);have V:Hid ((wr.drewN nq).ownsRow w 319 2 (.slice A m c) m (yC h)):=o.out;have H:Hid (Below w w (wr.drewN nq)):=dS g _;have S:=qj H.size;clear o g a1 b1 ud wk P';generalize wr.drewN nq=F at*;have o:=V;have g:=H;have u:=S
   focus
    obtain⟨gl,x,z',O,x1,x2⟩:=UH (qG O' g) D';subst z';rw [yL O] at p;have hx2:=qj O;clear O;by_cases Q':x.1<=n
    ·have I:Hid (YY leaf row=(h++[x])++ZN f (leaf.drop (i+1)) (row.drop k)):=by
      have:=p.out;rw [SN _ _ _ _ _ _ (by rw [P.out,M.out,<-d'.out];exact Q')] at this;rw [Hid,this,HDA.out];simp
     have U':(x.1:Int)<=(n:Int):=uK;have z:Hid (m+1=(h++[x]).length):=by rw [Hid,qK,<-R.out];rfl
     have J:Hid (d-(i+1)+(j-k)/2<=f):=by have:=L.out;rw [Hid];omega
     clear p;go_wp2_with (at_builtin;refine qF _ rfl (.tmp 66) (.tmp 71) 314 rfl w 319 N (.agg #[.int .u64 0,false]) 2 16 QD hi C D K rfl uK A m c _ rfl (o.alloc _) (F.heap.size+1) F 1 1 [.int .u64 (x.1:Int), .bool x.2] rfl (Pg _ _ _ _) (Ub rfl rfl) Z Y (qv u s8) ?_;intro s r G l q v;have B:=qj (zG (g.alloc g.size _) q (o.alloc _) (qv g.size s8));replace l:=qj l;clear q v);have E:Hid (G.ownsRow w 319 2 (.slice s (m+1) r) (m+1) (yC (h++[x]))):=by
      rw [Hid,XA,Kx];exact l.out
     go_wp2_with fail;refine xk ?_;exact⟨i+1,k,m+1,r,f,s,h++[x],s8,s8,s8,uK,uK,uK,z,J,I,E,B⟩
    focus
     have I:Hid (YY leaf row=(h++[(n,false)])++ZN f (leaf.drop i) (row.drop (k+2))):=by
      have:=p.out;rw [bL _ _ _ _ _ (λy hy=>by simp at hy;subst hy;rw [P.out,M.out,<-d'.out];exact Q'),P.out,M.out,<-d'.out] at this;rw [Hid,this,yL hx2.out];simp
     have U': ¬(x.1:Int)<=(n:Int):=uK;have z:Hid (m+1=(h++[(n,false)]).length):=by rw [Hid,qK,<-R.out];rfl
     have J:Hid (d-i+(j-(k+2))/2<=f):=by have:=L.out;rw [Hid];omega
     clear p
   rotate_left
   focus
    have Q:leaf.drop i=[]:=zD (by rw [T.out];omega);have I:Hid (YY leaf row=(h++[(n,false)])++ZN f (leaf.drop i) (row.drop (k+2))):=by
     have:=p.out;rw [Q,bL _ _ _ _ _ (λy hy=>by simp at hy),P.out,M.out,<-d'.out] at this;rw [Hid,this,Q];simp
    have z:Hid (m+1=(h++[(n,false)]).length):=by rw [Hid,qK,<-R.out];rfl
    have J:Hid (d-i+(j-(k+2))/2<=f):=by have:=L.out;rw [Hid];omega
    clear p Q
   all_goals
    go_wp2_with (at_builtin;refine qF _ rfl (.tmp 75) (.tmp 78) 314 rfl w 319 N (.agg #[.int .u64 0,false]) 2 16 QD hi C D K rfl uK A m c _ rfl (o.alloc _) (F.heap.size+1) F 1 1 [.int .u64 (n:Int), .bool false] rfl (Pg _ _ _ _) (Ub rfl rfl) Z Y (qv u s8) ?_;intro s r G l q v;have B:=qj (zG (g.alloc g.size _) q (o.alloc _) (qv g.size s8));replace l:=qj l;clear q v);have E:Hid (G.ownsRow w 319 2 (.slice s (m+1) r) (m+1) (yC (h++[(n,false)]))):=by
     rw [Hid,XA,Kx];exact l.out
    go_wp2_with fail;refine xk ?_;exact⟨i,k+2,m+1,r,f,s,h++[(n,false)],s8,s8,s8,uK,uK,uK,z,J,I,E,B⟩
  ·have Z': ¬(k:Int)+1<(j:Int):=uK;have W:(row.drop k).length<=1:=by rw [qI,X.out];omega
   by_cases D':i<d
   ·have u':=j' i d;obtain⟨gl,x,z',O,x1,x2⟩:=UH (qG O' g) D';subst z';obtain⟨f,rfl⟩: ∃f',f=f'+1:=⟨f-1,by have:=L.out;omega⟩;have I:Hid (YY leaf row=(h++[x])++ZN f (leaf.drop (i+1)) (row.drop k)):=by
     have:=p.out;rw [yL O,tg _ _ _ _ W] at this;rw [Hid,this];simp
    have z:Hid (m+1=(h++[x]).length):=by rw [Hid,qK,<-R.out];rfl
    have J:Hid (d-(i+1)+(j-k)/2<=f):=by have:=L.out;rw [Hid];omega
    clear p O W;go_wp2_with (at_builtin;refine qF _ rfl (.tmp 32) (.tmp 37) 314 rfl w 319 N (.agg #[.int .u64 0,false]) 2 16 QD hi C D K rfl uK A m c _ rfl (o.alloc _) (wr.heap.size+1) wr.heap.size 1 1 [.int .u64 (x.1:Int), .bool x.2] rfl (Pg _ _ _ _) (Ub rfl rfl) Z Y (qv u s8) ?_;intro s r G l q v;have B:=qj (zG (g.alloc g.size _) q (o.alloc _) (qv g.size s8));replace l:=qj l;clear q v);have E:Hid (G.ownsRow w 319 2 (.slice s (m+1) r) (m+1) (yC (h++[x]))):=by
     rw [Hid,XA,Kx];exact l.out
    go_wp2_with fail;refine xk ?_;exact⟨i+1,k,m+1,r,f,s,h++[x],s8,s8,s8,uK,uK,uK,z,J,I,E,B⟩
   ·have u':=vv i d;have Q:leaf.drop i=[]:=zD (by rw [T.out];omega);have X':Hid (YY leaf row=h):=by
     have:=p.out;rw [Q,mT _ _ W,jx] at this;exact this
    clear p Q W;go_wp2;go_ret;rw [X'.out,<-R.out];exact⟨A,c,rfl,o,g⟩
theorem S9 {sym:Int} (h:fL bs sym≠0): ∃k:Nat,sym=(k:Int)/\k<bs.length:=by
 unfold fL at h;by_cases h1:sym<0\/(bs.length:Int)<=sym
 ·rw [qk h1] at h;exact absurd rfl h
 ·exact⟨sym.toNat,uK,uK⟩
theorem Bv (W:World) (g lo hi:Nat) (bs:qn) (a:Nat) (t:TypeId) (rest:List Value) (A:q') (cap:Nat) (s:Bw) (sym:Int) (h:Cdr W g lo hi bs) (m:Wr W a t rest A cap s) (P:s.n<=900000000) (F: ∀k∈a::fpS A,k<lo\/hi<=k):
  Calls prog 122 #[.pointer g, .pointer a,sym] W (XX W a t rest A (.int .i64 (Ht bs sym)) (pd bs s sym)):=by
 have f:=qj (Bx W g _ _ _ sym h);have D:=qj m;have H:=qj h;unfold Ht pd;by_cases h0:fL bs sym=0
 focus
  rw [qk h0,qk h0];rw [h0] at f;clear h m h0
 rotate_left
 focus
  rw [qJ h0,qJ h0];obtain⟨k,rfl,G⟩:=S9 h0;rw [show(k:Int).toNat=k from rfl];obtain⟨⟨Al,Ac,R,C,sv,E,_,⟨h2,o⟩,_⟩,Y,U,I⟩:=h;have c1:W.cell? ⟨g,1,none⟩=some (.slice Ac bs C):=by rw [E.cell 1,ml]
  have Z:=(ZT I).1;obtain⟨b,u,rfl,-,w,c⟩:=(Reads.zY h2).at_ G;obtain⟨x,q,rfl⟩:=get_map _ _ _ _ w;have y:(Xt bs).getD k 0=x:=by rw [qd,q];rfl
  rw [y];unfold C16 at c;have X:x<65536:=by
   have:=FW _ k _ (qX G);rw [q] at this;have:=zy this;rw [this];split
   ·omega
   ·exact xC _ uK
  obtain⟨d,v⟩:=j1 (fL bs (k:Int));rw [<-v] at f h0⊢;have l:=qj (Bx _ g _ _ _ k (H.dr ⟨1,rfl⟩));rw [<-v] at l;have r:=qj (V_ _ a t _ A _ s x (d:Int) D.drew uK P);have N:Hid (g∉a::fpS A):=λe=>by have:=F g e;omega
  have Q:Hid (b.block∉a::fpS A):=λe=>by have:=F _ e;have:=(zj h2 b.block (by simp [fpS])).1;have:=o b.block (by simp [fpS]);omega
  unfold XX at r;have m':((d:Int)==0)=false:=SZ;have V:(k:Int)<(bs.length:Int):=uK;have T:=xi k;have S:IntKind.u64.wrap (x:Int)=(x:Int):=by rw [qS];omega
  generalize bs.length=n at*;clear m E h2 o w q y I v
 rotate_left
 all_goals
  go_in;go_wp2_with fail;refine Ω f ?_;go_wp2_with fail
 ·go_ret;exact⟨rfl,A,cap,D,WrK.refl _ _ _⟩
 ·refine zv 14 (λW=>W.cell? ⟨g,1,none⟩=some (.slice (some b) n C)/\W.cell? (b.add k)=some (.int .u16 x)) AL ⟨c1,c⟩ (λi=> ?_);refine zq [0,1,2,3,4,5] (a':= ?_) ?_;refine zq [6,7,8,9,10,11] (a':= ?_) ?_;refine vf 12 l ?_;rintro e w' ⟨rfl,rfl⟩;refine⟨_,rfl,(i),λi=> ?_⟩;refine vf 13 r ?_;rintro e w' ⟨rfl,O,M,z,j⟩;refine⟨_,rfl,(⟨j.jZ.cell (p:=⟨g,1,none⟩) N c1,j.jZ.cell (by rw [xF];exact Q) c⟩),λi=> ?_⟩;refine j4 14 rfl AL FV SQ (λK B=> ?_);go_simp;refine B _ _ ?_;clear B K;try simp only [Act.put,qQ,qY,qV]
  refine zV AL ?_ _;have L:=qj ((WrK.refl W a A).drew.trans j);have J:=qj z;clear i j z c1 c;go_wp2;go_ret;exact⟨rfl,O,M,J,L⟩
theorem Cdr.len {g lo hi l:Nat} (h:Cdr W g lo hi bs) (a:l<16):W.cell? ⟨g,2+l,none⟩=some (.int .i64 (Pk bs l))/\W.cell? ⟨g,18+l,none⟩=some (.int .i64 (Pp bs l))/\
  ∃A c,W.cell? ⟨g,34+l,none⟩=some (.slice A (Pp bs l) c)/\W.ownsRow lo 3 1 (.slice A (Pp bs l) c) (Pp bs l) ((YQ bs l).map NV):=by
 obtain⟨⟨f,Ac,i,j,s,b,_,_,h3⟩,_,_,_⟩:=h;obtain⟨A,c,e,d,_⟩:=h3 l a;exact⟨by rw [b.cell,mL _ _ _ _ _ a],by rw [b.cell,m8 _ _ _ _ _ a],A,c,by rw [b.cell,Cg _ _ _ _ _ a,e],d⟩
theorem F0 (l:Nat): ∀(bs:qn) (i:Nat),(J6 l i bs).length<=bs.length
 |[],i=>qx _
 |x::t,i=>by
  unfold J6;have:=F0 l t (i+1);split<;>simp<;>omega
theorem uh (l:Nat): ∀(bs:qn) (i x:Nat),x∈J6 l i bs->i<=x/\x<i+bs.length
 |[],i,x,h=>by simp [J6] at h
 |y::t,i,x,h=>by
  unfold J6 at h;rw [qf];split at h
  ·rcases qL.1 h with h|h
   ·omega
   ·have:=uh l t _ x h;omega
  ·have:=uh l t _ x h;omega
theorem WG (bs:qn) (l:Nat):Pp bs l<=bs.length:=by
 unfold Pp YQ;split
 ·exact qp _
 ·exact F0 l _ 0
theorem Ek (bs:qn) (i:Nat):(Xt bs).getD i 0<65536:=by
 rw [qd];by_cases hi:i<bs.length
 ·rw [FW bs i _ (qX hi)];show(if _ then _ else _)<_;split
  ·omega
  ·exact xC _ uK
 ·rw [qO (by rw [PD];omega)];show 0<_;omega
theorem Ep (bs:qn) (l:Nat):Pk bs l<65536:=by
 unfold Pk;split
 ·omega
 ·exact Ek _ _
def Wh (bs:qn) (x l:Nat):Value:=match G5 bs x l with|some s=> .tuple #[s,true]|none=> .tuple #[(),false]
theorem tO (W:World) (g lo hi:Nat) (bs:List UInt8) (x l:Nat) (h:Cdr W g lo hi bs) (p:l<16) (v:x<65536):
  Calls prog 298 #[.pointer g, .int .u64 x,l] W λe o=>e= .returned (Wh bs x l)/\W=o:=by
 obtain⟨c1,c2,A,c,s,d⟩:=h.len p;have hF:=Ep bs l;have w:=WG bs l;have B:=(ZT h.ok).1;have m:Wh bs x l=if x<Pk bs l\/Pp bs l<=x-Pk bs l then .tuple #[(), .bool false] else .tuple #[.int .i64 ((YQ bs l).getD (x-Pk bs l) 0:Nat), .bool true]:=by
  unfold Wh G5;split
  ·rename_i h1 h2
   split at h2
   ·cases h2
   ·rename_i h3;rw [qJ h3];rw [<-zy h2]
  ·rename_i h2
   split at h2
   ·rename_i h3;rw [qk h3]
   ·cases h2
 rw [m];have t:(l:Int)<16:=uK;have u:IntKind.i64.wrap (x:Int)=(x:Int):=SX;have b:Hid ((YQ bs l).length=Pp bs l):=rfl;generalize z:Pk bs l=F at*
 generalize E:Pp bs l=M at*
 clear h m;by_cases h1:x<F
 ·have G:(x:Int)-(F:Int)<0:=uK
  rw [qk (.inl h1)];go_enter func298,ntmps298
  go_wp2_with fail
  go_ret2;exact⟨rfl,rfl⟩
 ·obtain⟨k,i⟩: ∃k,k=x-F:=⟨_,rfl⟩
  have C:(x:Int)-(F:Int)=(k:Int):=uK;rw [<-i];replace i:=qj i;by_cases h2:M<=k
  ·have r:(M:Int)<=(k:Int):=uK
   rw [qk (.inr h2)];clear h1;go_enter func298,ntmps298
   go_wp2_with fail
   go_ret2;exact⟨rfl,rfl⟩
  ·have r: ¬(M:Int)<=(k:Int):=uK
   have a:k<M:=uK;obtain⟨n,rfl⟩:=Zx d uK;have f:=(xU d a).1;rw [qD,qX (by rw [b.out];exact a)] at f
   have j:(YQ bs l).getD k 0=(YQ bs l)[k]'(by rw [b.out];exact a):=by rw [qd,qX (by rw [b.out];exact a)];rfl
   rw [qJ uK,j];generalize (YQ bs l)[k]'(by rw [b.out];exact a)=q at*
   have D:W.cell? ⟨n,k,none⟩=some (q:Value):=f;have y:(k:Int)<(M:Int):=uK;clear h1 h2 f d j;go_enter func298,ntmps298
   go_wp2_with fail
   go_ret2;exact⟨rfl,rfl⟩
theorem Gt (bs:qn) (x l:Nat) (f:Nat):Z2 bs x l (f+1)=(Z2 bs x l f||(decide (0<Pp bs (l+(f+1)))&&(decide (x*2^(f+1)<Pk bs (l+(f+1))+Pp bs (l+(f+1)))&&decide (Pk bs (l+(f+1))<x*2^(f+1)+2^(f+1))))):=rfl
theorem Ch (W:World) (g lo hi:Nat) (bs:List UInt8) (x l:Nat) (h:Cdr W g lo hi bs) (hl:l<=15) (z:x<65536):
  Calls prog 300 #[.pointer g, .int .u64 x,l] W λe C=>e= .returned (.bool (uQ bs x l))/\Dr W C:=by
 have H:=qj h;have s:=(ZT h.ok).1;have D:bs.length<=300:=s;have P:IntKind.i64.wrap (x:Int)=(x:Int):=SX;clear h s;go_enter func300,ntmps300
 go_wp2_with fail;go_loopw [7] (λo wr=> ∃(f k:Nat),o=(k:Value)/\k<=16/\Hid (k=l+(f+1))/\Hid (Z2 bs x l f=false)/\Hid (Dr W wr)) (λo _=>16-(intOf o).toNat)
 case atStart=>exact⟨0,l+1,by first|rfl|go_num|simp,uK,rfl,rfl,Dr.refl _⟩
 case round=>
  obtain⟨f,k,rfl,hk,i,q,m⟩:=hrel;by_cases y:k<16
  ·have iL:(k:Int)<=15:=uK
   have d':(k:Int)<16:=uK;have O:(0:Int)<=(k:Int):=uK;obtain⟨c1,c2,_⟩:=(H.dr m).len y;have hF:=Ep bs k;have R:=qv (WG bs k) D;have b:=Gt bs x l f;rw [q.out,Bool.false_or,<-i.out] at b;have u:f+1<=15:=by have:=i.out;omega
   have t:2^(f+1)<=2^15:=zZ uK u;have w:x*2^(f+1)<=65536*2^15:=xA (zr z) t;have A:(2:Nat)^15=32768:=rfl;rw [A] at t w;have J:(k:Int)-(l:Int)=((f+1:Nat):Int):=by have:=i.out;omega
   have U:wrap64 ((x:Int)*((2^(f+1):Nat):Int))=((x*2^(f+1):Nat):Int):=by
    rw [<-zB];exact Kr _ uK
   have E:(2:Int)^(f+1)=((2^(f+1):Nat):Int):=by rw [j6];rfl
   generalize x*2^(f+1)=a at*
   generalize 2^(f+1)=c at*
   obtain⟨d,n⟩: ∃d,d=f+1:=⟨_,rfl⟩;rw [<-n] at J E u;replace n:=qj n;generalize Pk bs k=F at*
   generalize Pp bs k=M at*
   have Z:IntKind.i64.wrap (k:Int)=(k:Int):=SX;have S:IntKind.i64.wrap (d:Int)=(d:Int):=SX;have V:IntKind.i64.wrap (c:Int)=(c:Int):=SX;have X:IntKind.i64.wrap (a:Int)=(a:Int):=SX;have Q:IntKind.i64.wrap ((F:Int)+(M:Int))=(F:Int)+(M:Int):=SX;have p':IntKind.i64.wrap ((a:Int)+(c:Int))=(a:Int)+(c:Int):=SX;by_cases h1:0<M
   focus
    have N:(0:Int)<(M:Int):=uK
    have T:decide (0<M)=true:=qw h1;by_cases h2:a<F+M
    focus
     have v:(a:Int)<(F:Int)+(M:Int):=uK
     have Y:decide ((a:Int)<(F:Int)+(M:Int))=true:=qw v;have B:decide (a<F+M)=true:=qw h2;by_cases h3:F<a+c
     focus
      have r:(F:Int)<(a:Int)+(c:Int):=uK
      have m':decide ((F:Int)<(a:Int)+(c:Int))=true:=qw r;have I:decide (F<a+c)=true:=qw h3;have p:Hid (uQ bs x l=true):=by
       have L:Z2 bs x l (f+1)=true:=by rw [b,qw h1,qw h2,qw h3];rfl
       have K: ∀e,Z2 bs x l (f+1+e)=true:=λe=>by
        induction e with
        |zero=>exact L
        |succ e G=>show(Z2 bs x l (f+1+e)||_)=true;rw [G];rfl
       have:=K (15-l-(f+1));rw [show f+1+(15-l-(f+1))=15-l by have:=i.out;omega] at this
       exact this
      clear b
     rotate_left
     focus
      have r:decide ((F:Int)<(a:Int)+(c:Int))=false:=qc uK
      have I:decide (F<a+c)=false:=qc h3;have b:=qj (show Z2 bs x l (f+1)=false by rw [b,qc h3];simp)
     rotate_left
    rotate_left 2
    focus
     have v:decide ((a:Int)<(F:Int)+(M:Int))=false:=qc uK
     have B:decide (a<F+M)=false:=qc h2;have b:=qj (show Z2 bs x l (f+1)=false by rw [b,qc h2];simp)
    rotate_left
   rotate_left 3
   focus
    obtain rfl:M=0:=uK
    have N:decide ((0:Int)<0)=false:=rfl;have b:=qj (show Z2 bs x l (f+1)=false by rw [b];rfl)
    clear h1
   rotate_left
   all_goals
    go_wp2_with fail;go_quiet (fail)
    have j:Hid (Dr W (wr.drewN nq)):=m.drewN nq
    go_wp2_with fail
   ·go_ret;exact⟨by rw [p.out];rfl,j.out⟩
   rotate_left
   rotate_left
   all_goals
    go_roundw
    case rel=>exact⟨f+1,k+1,by first|rfl|simp,uK,by have:=i.out;rw [Hid];omega,by rw [Hid,b.out],j⟩
    case measure=>simp [intOf];omega
  ·obtain rfl:k=16:=uK
   have p:Hid (uQ bs x l=false):=by
    unfold uQ;rw [Hid,show 15-l=f by have:=i.out;omega,q.out]
   go_wp2_with fail;go_ret;exact⟨by rw [p.out];rfl,m.out⟩
theorem m9 {a:Nat} (h:k<=q7 b a):Po b a (k:Int)=0/\Hj b a (k:Int)=a+k:=by
 have c:Po b a (k:Int)=0:=by unfold Po;rw [qJ uK,qJ uK]
 unfold Hj;rw [c];exact⟨rfl,qk rfl⟩
theorem S_ {g:Nat} {A:q'} {N cap at_:Nat} (h:Rd W g A N cap b at_) (a:k<=q7 b at_):
  Calls prog 299 #[.pointer g,k] W (JD W g A N cap b () (at_+k)):=by
 have:=Sw W g A N _ _ b (k:Int) h;obtain⟨h1,h2⟩:=m9 a;rw [h1,h2] at this;exact this
def nz (W:World) (a:Nat) (A:q') (N cap:Nat) (b:qn) (bs:qn) (at_:Nat):Ending->World->Prop:=JD W a A N cap b (.tuple #[.int .i64 (P4 bs b at_), .int .i64 (kC bs b at_)]) (pD bs b at_)
theorem By (W:World) (g lo hi:Nat) (bs:List UInt8) (w:Nat) (A:Option Addr) (N cap at_:Nat) (b:List UInt8) (h:Cdr W g lo hi bs) (L:Rd W w A N cap b at_):
  Calls prog 285 #[.pointer g, .pointer w] W (nz W w A N cap b bs at_):=by
 have H:=qj h;have E:=qj L;have B:=qj (SW W w A N cap at_ 15 b uK L);have U:min 15 (q7 b at_)=Da b at_:=rfl;rw [U] at B;have I:=Zr b at_ 15;have n:DR bs b at_=Kg bs (QF b at_ 15) (Da b at_) 15 1:=rfl;have Z:Da b at_<=15:=xK _ _;have u':Da b at_<=q7 b at_:=Nat.min_le_right _ _;have q:DR bs b at_=none->kC bs b at_=(if Da b at_<15/\uQ bs (QF b at_ 15/2^(15-Da b at_)) (Da b at_)=true then 1 else 7)/\P4 bs b at_= -1/\pD bs b at_=at_:=λe=>by
  unfold kC P4 pD;rw [e];exact⟨rfl,rfl,rfl⟩
 have D: ∀s l,DR bs b at_=some (s,l)->kC bs b at_=0/\P4 bs b at_=(s:Int)/\pD bs b at_=at_+l:=λs l e=>by
  unfold kC P4 pD;rw [e];exact⟨rfl,rfl,rfl⟩
 replace q:=qj q;replace D:=qj D;unfold nz;generalize DR bs b at_=Q at*
 obtain⟨a,X⟩: ∃a,a=Da b at_:=⟨_,rfl⟩;rw [<-X] at B n Z u' q;obtain⟨x,T⟩: ∃x,x=QF b at_ 15:=⟨_,rfl⟩;rw [<-T] at B n I q;have OX:x<32768:=I;replace n:=qj n;clear h L U X T I;go_enter func285,ntmps285
 go_wp2_with fail;refine B.mono ?_;rintro e O ⟨rfl,S⟩;have m:=qj S;clear S B
 go_wp2_with fail;go_loopw [8] (λG wr=> ∃(f l:Nat),G=(l:Value)/\1<=l/\l<=16/\l<=a+1/\Hid (f+l=16)/\Hid (Q=Kg bs x a f l)/\O=wr) (λG _=>17-(intOf G).toNat)
 case atStart=>exact⟨15,1,rfl,uK,uK,uK,rfl,n,rfl⟩
 case round=>
  obtain⟨f,l,rfl,I',G',O',V,v,rfl⟩:=hrel;by_cases J':l<=a
  ·have N':(l:Int)<=(a:Int):=uK
   obtain⟨f,rfl⟩: ∃f',f=f'+1:=⟨f-1,by have:=V.out;omega⟩
   have y:x/2^(15-l)<65536:=vQ (xr _ _) uK;have o:=qj (tO O g lo hi bs (x/2^(15-l)) l (H.dr m) uK y);have Y:=Pd x (15-l);have z':(15:Int)-(l:Int)=((15-l:Nat):Int):=uK;have c:=v.out;unfold Kg at c;rw [qJ uK] at c;have r:15-l<15:=uK;unfold Wh at o;generalize x/2^(15-l)=J at*
   generalize 15-l=d' at*
   cases F:G5 bs J l with
   |some s=>
    rw [F] at c o;obtain⟨d,j,i⟩:=D.out s l c;have K:=qj (S_ (E.dr m) (k:=l) uK);unfold JD at K;replace d:=qj d;replace j:=qj j;replace i:=qj i;clear c v F y
    go_wp2_with fail;refine o.mono ?_;rintro e M ⟨rfl,rfl⟩
    go_wp2_with fail;refine K.mono ?_;rintro e w3 ⟨rfl,P,R⟩;have m':=qj P;have p':=qj ((Zp (l:=[w]) m).then R);clear K P R o
    go_wp2_with fail
    go_ret2;rw [d.out,j.out,i.out];exact⟨rfl,m'.out,p'.out⟩
   |none=>
    rw [F] at c o;replace c:=qj c;clear v F y
    go_wp2_with fail;refine o.mono ?_;rintro e M ⟨rfl,rfl⟩
    go_wp2_with fail;go_roundw
    case rel=>exact⟨f,l+1,by first|rfl|simp,uK,uK,uK,by have:=V.out;rw [Hid];omega,c,trivial⟩
    case measure=>simp [intOf];omega
  ·have M': ¬(l:Int)<=(a:Int):=uK
   have iL:Q=none:=by
    rw [v.out];cases f with
    |zero=>rfl
    |succ f=>unfold Kg;rw [qk uK]
   obtain⟨d,j,i⟩:=q.out iL;replace d:=qj d;replace j:=qj j;replace i:=qj i;clear v n q D;have D':(a=15)\/a<15:=uK;rcases D' with r|r
   ·subst r
    have C:Hid (kC bs b at_=7):=by rw [Hid,d.out,qJ uK]
    go_wp2_with fail
    go_ret2;rw [C.out,j.out,i.out];exact⟨rfl,E.dr m,Zp m⟩
   ·have N9:(a:Int)<15:=uK
    have y:x/2^(15-a)<65536:=vQ (xr _ _) uK;have p:=qj (Ch O g lo hi bs (x/2^(15-a)) a (H.dr m) uK y);have Y:=Pd x (15-a);have z':(15:Int)-(a:Int)=((15-a:Nat):Int):=uK;have N6:15-a<16:=uK;generalize x/2^(15-a)=J at*
    generalize 15-a=d' at*
    cases t:uQ bs J a
    focus rw [t] at p;have C:Hid (kC bs b at_=7):=by rw [Hid,d.out,t,qJ s8]
    rotate_left
    focus rw [t] at p;have C:Hid (kC bs b at_=1):=by rw [Hid,d.out,qk ⟨r,t⟩]
    all_goals
     clear t r
     go_wp2_with fail;refine p.mono ?_;rintro e M ⟨rfl,u⟩;have z:=qj (m.trans u);clear u p
     go_wp2_with fail
     go_ret2;rw [C.out,j.out,i.out];exact⟨rfl,E.dr z,Zp z⟩
end
section
open Go.Joins Go.ChangeShapes Go.WideShapes Go.Deep
variable {W:World}
variable {H:Type} {enc:TypeId × Value->H} {P:Program} {w:World}
theorem qqk {r:Reach} {b0:Nat} {t e:TypeId} {o s z x:Field} {v:Value} {d:DataW H} {p:List MemPlace} (ht:P.underlying t=some (.slice e)) (he:P.underlying e=some (.struct #[o,s,z,x]))
  (X:P.cellsOf e=4) (o0:o.offset=0) (o1:s.offset=1) (o2:z.offset=2) (o3:x.offset=3) (c0:P.cellsOf o.type=1) (c1:P.cellsOf s.type=1) (c2:P.cellsOf z.type=1) (c3:P.cellsOf x.type=1)
  (t0:P.underlying o.type=some (.int .u64)) (t1:P.underlying s.type=some (.int .u8)) (t2:P.underlying z.type=some .string) (Y:P.underlying x.type=some .string)
  (hv:Value.okWide P w r b0 t v) (h:DataW.Trod enc P w 0 (λ_=>true) true t v d p):
  ∃(A:q') (n c:Nat) (l:List Rec),v= .slice A n c/\n<=c/\c<=maxLen/\(Reads w w 4 A n (ji l)/\ ∀r∈l,r.time<18446744073709551616/\r.level<256/\r.src.length<=maxLen/\r.txt.length<=maxLen):=by
 obtain⟨A,n,c,rfl⟩:=okWide_slice ht hv;obtain⟨fuel,hf⟩:=h;rcases open_slice ht hf with⟨y,_⟩|⟨a,len,cap,m,n',D,Pl,y,hb,hl,hm,d',_,hx⟩
 ·simp [Value.cells] at y;obtain⟨rfl,rfl,rfl⟩:=y;exact⟨none,0,0,[],rfl,qx _,s8,Reads.none_,λt ht=>by cases ht⟩
 ·simp [Value.cells] at y;obtain⟨rfl,rfl,rfl⟩:=y;have G':n<=m:=by rw [d'];split<;>omega
  have D': ∀i,i<n-> ∃q:Rec,w.cell? (a.add (i*4))=some (.int .u64 (q.time:Int))/\w.cell? (a.add (i*4+1))=some (.int .u8 (q.level:Int))/\w.cell? (a.add (i*4+2))=some (STR q.src)/\w.cell? (a.add (i*4+3))=some (STR q.txt)/\(q.time<18446744073709551616/\q.level<256/\q.src.length<=maxLen/\q.txt.length<=maxLen):=by
   intro i hi;obtain⟨z',h1,h2⟩:=hx i uK;rw [X] at h1;obtain⟨_,p',B⟩:=World.cells?_some h1;obtain⟨xs,k,hk,I',_,iL,E⟩:=DataW.trod_struct he h2
   match xs,iL,z',p' with
   |[y0,y1,y2,y3],_,[v0,v1,v2,v3],_=>
    have M:=E 0 o rfl;have N:=E 1 s rfl;have R:=E 2 z rfl;have O:=E 3 x rfl;simp [o0,o1,o2,o3,c0,c1,c2,c3] at M N R O;obtain⟨K,S,-,V⟩:=DataW.trod_int t0 M;obtain⟨G,U,-,w1⟩:=DataW.trod_int t1 N;obtain⟨J,T,-,w2⟩:=DataW.trod_string t2 R;obtain⟨I,Q,-,W⟩:=DataW.trod_string Y O;simp only [List.cons.injEq,and_true] at S U T Q;subst S U T Q;have u':=bounds_u64 V;have m':=bounds_u8 w1;have q0:=B 0 uK;have q1:=B 1 uK;have q2:=B 2 uK;have q3:=B 3 uK;rw [add_add] at q0 q1 q2 q3;refine⟨⟨K.toNat,G.toNat,J.data.toList,I.data.toList⟩, ?_, ?_, ?_, ?_, ?_⟩
    ·show _=some (Value.int .u64 ((K.toNat:Nat):Int));rw [Int.toNat_of_nonneg u'.1];simpa using q0
    ·show _=some (Value.int .u8 ((G.toNat:Nat):Int));rw [Int.toNat_of_nonneg m'.1];simpa using q1
    ·show _=some (STR J.data.toList);unfold STR;rw [Array.toArray_toList];simpa using q2
    ·show _=some (STR I.data.toList);unfold STR;rw [Array.toArray_toList];simpa using q3
    ·refine⟨?_, ?_, ?_, ?_⟩
     ·show K.toNat<_;omega
     ·show G.toNat<256;omega
     ·show J.data.toList.length<=_;exact w2
     ·show I.data.toList.length<=_;exact W
  haveI:Inhabited Rec:=⟨⟨0,0,[],[]⟩⟩;obtain⟨q,F⟩:=choose_lt D';refine⟨some a,n,_,(List.range n).map q,rfl,hl,hm,⟨by rw [mM];simp,λhn=> ?_⟩,λt ht=> ?_⟩
  ·have h0:=(F 0 hn).1;refine⟨a,rfl,by have:=yM h0;rwa [xF] at this,λj u L=> ?_⟩;have hj:j<n*4:=by
    have:=(vp.1 L).1;rw [mM] at this;simpa using this
   have hi:j/4<((List.range n).map q).length:=SZ;have b:=kg ((List.range n).map q) (j/4) (j%4) hi uK;have g:j/4*4+j%4=j:=uK;rw [g,L] at b;have C:=F (j/4) uK;have Z:((List.range n).map q)[j/4]=q (j/4):=s8;rw [Z] at b;have f:j%4=0\/j%4=1\/j%4=2\/j%4=3:=uK;rcases f with f|f|f|f
   ·rw [f] at b g;rw [<-g,b];exact C.1
   ·rw [f] at b g;rw [<-g,b];exact C.2.1
   ·rw [f] at b g;rw [<-g,b];exact C.2.2.1
   ·rw [f] at b g;rw [<-g,b];exact C.2.2.2.1
  ·obtain⟨i,hi,rfl⟩:=jB.1 ht;exact(F i (js.1 hi)).2.2.2.2
end
end Go.Proofs.YtfnlfpcfkbdcmaaGreatDoor
