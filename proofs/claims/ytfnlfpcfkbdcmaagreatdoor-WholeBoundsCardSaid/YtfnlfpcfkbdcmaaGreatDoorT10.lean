import Derived.Test.YtfnlfpcfkbdcmaaGreatDoorT06
import Derived.Test.YtfnlfpcfkbdcmaaGreatDoorT07
set_option linter.unusedSimpArgs false
set_option linter.unusedVariables false
set_option maxRecDepth 100000
set_option maxHeartbeats 0
open Go.Proofs.Tryz
namespace Go.Proofs.YtfnlfpcfkbdcmaaGreatDoor
variable {L:O}
section
variable {A:q'}{e:S qn}{w:I}
section
open Go.RowKit
def AA (w:I) (n:O) (a:S qn) (e:Ending) (w':I):Prop:= ∃A c,e=t' (Z A n c)/\zM w' 0 w A n c a/\r' w w w'
theorem vm.I0 {B n k:O} (h:vm w B A n e) (g:k<n): ∃c a Ai b,A=some c/\e[k]? =some a/\i' w (c.add k)=J (Z Ai a b)/\U a<=b/\b<=maxLen/\E' w B 1 Ai a (a.map B8):=by
 obtain⟨c,a,Ai,m,b,j,_,l,f,h1,h2,d⟩:=h.row g;have i:=d.len;subst i;exact⟨c,a,_,b,j,l,f,h1,h2,d⟩
theorem Zz:(prog.info? 30).map (λi=>(i.zero,i.size,i.bytes))=J (some (Z none 0 0),1,24):=AL
structure L7 (w W:I) (R C L:O) (f:O->O->AB) (Am:q') (A:q') (xss:S qn):Prop where
 cell: ∀i j,i<R->j<C-> ∃ad,Am=some ad/\i' W (ad.add (i*C+j))=J (gR ((f i j).toNat:V))
 row: ∀j,j<C-> ∃ad b Aj cj,A=some ad/\xss[j]? =some b/\U b=L/\i' W (ad.add j)=J (Z Aj L cj)/\E' W w 1 Aj L (b.map B8)
theorem NM {R C:O} {f:O->O->AB} {o:q'} (q:E' w w 1 o (R*C) ((zP C f (R*C)).map B8)) (r:vm w w A C e) (s: ∀x∈e,U x=L) (W:I) (n:r' w w W):L7 w W R C L f o A e:=by
 refine⟨λi j hi c=> ?_,λj c=> ?_⟩
 ·obtain⟨h,b,g,_,a,d⟩:=(q.below n).byte (dQ hi c);rw [Qt _ _ _ _ (dQ hi c),(Jl c).1,(Jl c).2] at a;injection a with a;exact⟨h,g,by rw [a];exact d⟩
 ·obtain⟨h,b,p,t,g,a,d,_,_,l⟩:=(r.below n).I0 c;have m:=s b (zQ a);rw [m] at d l;exact⟨h,b,p,t,g,a,m,d,l⟩
theorem s_ (L:O) (f:O->AB) (a:S qn) (m:L<=1000000) (W:I) (d c:q') (e i j:O) (b:qn) (h7:E' W W 1 d L ((Vu j L f a).map B8)) (h8:E' W W 1 c L (b.map B8)) (k:a[j]? =some b) (g:U b=L):
  xG 145 #[Z d L e,gR ((f j).toNat:V),Z c L i] W (U8 5 W L (Vu (j+1) L f a) 0):=by
 have h:=wR d c L L e i _ b (f j) W h7 h8 M M;rw [Nm _ _ _ _ _ k g] at h;have l:NT (Vu j L f a) b=0:=qk (by rw [Vj,g]);rw [l] at h;rw [<-Hz (Vj _ L f a)];exact h
theorem bQ (R C L:O) (f:O->O->AB) (c A:q') (k cl:O) (d:S qn) (w:I) (hR:R<=255) (hC:C<=255) (hC1:1<=C) (hk:R*C<=k) (hLm:L<=1000000)
  (hm:E' w w 1 c (R*C) ((zP C f (R*C)).map B8)) (hx:vm w w A C d) (hL: ∀x∈d,U x=L):
  xG 103 #[.agg #[R,C,Z c (R*C) k],Z A C cl] w (AA w R (yH R C L f d)):=by
 have iv:=T (λW hB=>NM hm hx hL W hB);have O':=T (λi=>s_ L (f i) d hLm);obtain⟨i0,hi,uK,N,u'⟩:=xt xR;obtain⟨i1,iL,m',ck,cL⟩:=xt Zz;have LT:=T (λ(i j:O) (hi:i<R) (hj:j<C)=>dQ hi hj);have hRC:=fN hR hC;generalize R*C=q at*;clear hm hx hL;go_in;go_wp2_with (at_make;refine xP _ rfl _ _ 87 rfl w 30 i1 z8 1 jr iL m' ck .i64 .i64 _ _ R rfl rfl rfl rfl ?_ ?_ ?_ ?_;rotate_left 3;intro cK B s;replace B:=T B;replace s:=T s);rotate_left 1
 ·rw [cL.out];omega
 ·unfold maxLen;omega
 ·exact(zi (qZ _ w) _).size
 have cY:=F'.new w 154 #[R,C,Z c q k];have qj:=zi (qZ w w) (Y #[R,C,Z c q k] 154);have D':=T (cY.grown s s8);have K:=T (qj.grown s qj.size s8);have Z':=cY.lt;have cB:G (zM cK 0 w (some ⟨(w (Y #[R,C,Z c q k] 154):O),0,none⟩) R R (List.replicate R [])):=by
  have h:=B.out;rw [z_] at h;refine zM.AH h s8 (λi xs hi=> ?_) (qp _) K.size;rw [jF] at hi;split at hi
  ·injection hi with hi;subst hi;refine⟨none,0, ?_,qx _,qp _, .inl E'.none_⟩;rename_i hi';show(madeCells #[z8] R).toList[i]? =J (Z none 0 0);rw [xf];simp [jF,hi']
  ·cases hi
 clear cY qj;have ln:(w (Y #[R,C,Z c q k] 154):O)=(w:O)+1:=s8;rw [ln] at cB Z';clear ln;generalize (w:O)+1=g at*;have Q':G (∀a (W:I),xp W w 5 1 (Z (some ⟨a,0,none⟩) L L) L (madeCells #[Value.int .u8 0] L).toList-> ∀i,xp W w 5 1 (Z (some ⟨a,0,none⟩) L L) L ((Vu 0 L (f i) d).map B8)):=λa W h i=>by
  rw [si,yP,show B8 0=gR 0 from rfl,<-xf];exact h
 have SK:=T (λ(i j:O) (h:f i j=0)=>sI j L _ d h);go_loopw [16] (λP wr=> ∃i:O,P=(i:la)/\i<=R/\G (r' w w wr)/\G (F' wr w 154 #[R,C,Z c q k])/\G (zM wr 0 w g R R (yH i C L f d++List.replicate (R-i) []))) (λP _=>R-(intOf P).toNat)
 ·exact⟨0,rfl,M,K,D',cB⟩
 ·clear K;obtain⟨i,rfl,hiR,u,E,r⟩:=hrel;by_cases y:i<R
  ·have hlt':=j' i R;have hC0:=yn C;obtain⟨ad,b0,A0,c0,H,-,-,e0,-⟩:=(iv _ u).row 0 M;subst H;have e0':i' wr ad=J (Z A0 L c0):=by simpa [Addr.add] using e0
   clear e0;go_wp2_with (at_make;refine xP _ rfl _ _ 30 rfl w 5 i0 (gR 0) 1 qu hi uK N .i64 .i64 _ _ L rfl rfl rfl rfl ?_ ?_ ?_ ?_;rotate_left 3;intro w4 F D;replace F:=T F;replace D:=T D);rotate_left 1
   ·rw [u'.out];omega
   ·unfold maxLen;omega
   ·exact u.size
   have M':=T ((qZ _ _).grown D (qx _) s8);have z':=T (Q' _ _ (by have h:=F.out;rw [z_] at h;exact h) i);clear e0';generalize I':wr=wA at*;go_loopw [26,7] (λp' v7 wr=> ∃(j a:O) (n:q'),p'=(j:la)/\v7=Z n L a/\j<=C/\G (r' wA wA wr)/\G (xp wr w 5 1 (Z n L a) L ((Vu j L (f i) d).map B8))) (λp' _ _=>C-(intOf p').toNat)
   ·exact⟨0,L,_,rfl,rfl,M,M',z'⟩
   ·obtain⟨j,a,n,rfl,rfl,hjC,l,o⟩:=hrel;have z:=T (zX u l);by_cases hh:j<C
    ·have hjl':=j' j C;obtain⟨am,X',em⟩:=(iv _ z).cell i j y hh;obtain⟨OX,b,Aj,cj,H,hb,hl,ej,hr⟩:=(iv _ z).row j hh;obtain rfl:ad=OX:=by injection H
     subst X';have ih:=E.below l E.lt;have x1:i' wr ⟨w,1,none⟩=J (C:la):=ih.cell 1;have x2:i' wr ⟨w,2,none⟩=J (Z (some am) q k):=ih.cell 2;have hq:=LT i j y hh;have hmul1:=(zB i C).symm;have d':=T (O' i _ n _ a cj j b (E'.zY o) (hr.more z.size) hb hl);have X:=T (SK i j);clear H hb hl hr ih;by_cases m:f i j=0
     focus
      have Q:=X m;rw [m] at em;rw [<-Q] at o
     rotate_left
     focus
      have hne:((f i j).toNat:V)≠0:=λe=>m (Xf (by simpa using e));generalize (f i j).toNat=cn at*
     rotate_left
     all_goals
      generalize i*C=q1 at*;have hsum1:(q1:V)+(j:V)=((q1+j:O):V):=M;generalize q1+j=t at*;have N':=j' t q;have hs10:=xi t;go_wp2_with fail
     ·refine xk ?_;exact⟨j+1,a,n,xh,rfl,M,l,o⟩
     ·refine d'.mono ?_;rintro e w6 ⟨A6,c6,rfl,N6,G'⟩;have HO6:=T (qi N6 (qv u.size l.size));have S':=T (zX l G');clear N6 G' x1 x2 em ej;go_wp2_with fail;refine xk ?_;exact⟨j+1,c6,A6,xh,rfl,M,S',HO6⟩
    ·have ln:=vv C j;obtain rfl:j=C:=M;obtain⟨⟨v,hv⟩,hfr⟩:=(r.below l).slot y;have J':=T ((r.below l).LJ y (j8.own (b0:=0) o).1 (j8.own o).2);rw [sL _ _ _ _ _ _ y] at J';have P':=(r.ex.choose_spec.1.lt g rfl).1;have Y':(w:O)≠g:=M;have N9:=T (z.setCell (p:=⟨g,i,none⟩) P' (Z n L a));have U':G (F' (wr.setCell ⟨g,i,none⟩ (Z n L a)) w 154 #[R,j,Z c q k]):=(E.below l E.lt).far Y' _;clear o l r;go_wp2_with fail;clear hv hfr;refine xk ?_;exact⟨i+1,xh,M,N9,U',J'⟩
  ·have ln:=vv R i;obtain rfl:i=R:=M;rw [xO,List.replicate_zero,jx] at r;go_wp2;go_ret;exact⟨_,_,rfl,r,u⟩
end
end
section
section
open Go.RowKit
theorem AR (R C i j:O) (f:O->O->AB) (v:AB) (hi:i<R) (a:j<C):(zP C f (R*C)).set (i*C+j) v=zP C (λr t=>if r=i/\t=j then v else f r t) (R*C):=by
 apply zm;intro t;have b:=dQ hi a;rw [vD,yj];by_cases ht:t<R*C
 ·rw [Qt _ _ _ _ ht,Qt _ _ _ _ ht];by_cases e:i*C+j=t
  ·rw [qk e,qk b,<-e,(Jl a).1,(Jl a).2,qk ⟨rfl,rfl⟩]
  ·rw [qJ e];have c: ¬(t/C=i/\t%C=j):=λh=>e (by
    have:=Qe t C;rw [h.1,h.2,xH] at this;exact this)
   rw [qJ c]
 ·rw [Xh _ _ _ _ ht,qJ M,Xh _ _ _ _ ht]
theorem bZ {w:I} {base g o R C n k:O} {A:q'} {f:O->O->AB} (h:Wk w base g o R C A n k f) (ho:o=0\/o=3) (i:O) (c:AB) (cY:R<=255) (hC:C<=255) (hi:i<R):
  xG 294 #[mJ (some ⟨g,o,none⟩),i,gR (c.toNat:V)] w λe w'=>e=t' (BA #[])/\Wk w' base g o R C A n k (QK i c f)/\w.grownBy w' (A.map (·.block)):=by
 have H:=T h;have RI:=T (λW f' (hW:Wk W base g o R C A n k f')=>Y2 hW ho i cY hC hi);have RW:=T (λW=>Mc _ W c.toNat_lt);have B:(prog.info? 282).map (·.size)=J (vt c.toNat).size:=by rw [Jt];exact(jb YL).2
 replace B:=T B;have s:=h.off hi;replace s:=T s;have HA:=T (λa ha=>(h.lt a ha).2);have HI:=T hi;have uK:=T h.len;have hz:=(jb YL).1;clear h cY;go_in;go_wp2_with fail;refine zC (RW _) ?_;intro q u;have P:=T (H.below u);have cL:=T (vU u (A.map (·.block)));have G':=u.size;clear u;go_wp2_with (refine Yo rfl 282 _ _ rfl q (vt c.toNat) rfl rfl 282 JR (F'.new _ _ _) B (uV _) (Kt _) ?_;intro w2 m p' N d');have ih:=N _ _ (j1 _) (qx _);have hh:=T (P.below ih);have L:=T (vu cL (vU ih _));replace m:=T m;clear p' N d' ih;go_wp2_with fail;refine zC (RI _ _ hh) ?_;intro w3 x;have H3:=T (hh.below x);have qj:=T (vu L (vU x _));have K:=T (m.below x m.lt);clear x;generalize cB:(q:O)=v at*;obtain⟨Ac,iv⟩: ∃Ac,G (xo A k (i*C) 1=Ac):=⟨_,rfl⟩;obtain⟨kc,iL⟩: ∃kc,G (k-i*C=kc):=⟨_,rfl⟩;rw [iv.out,iL.out];obtain⟨F,ln⟩: ∃F,G (c.toNat=F):=⟨_,rfl⟩;rw [ln.out] at K;rw [ln.out];go_wp2;go_loopw [17] (λE wr=> ∃kk:O,E=(kk:la)/\kk<=C/\G (Wk wr base g o R C A n k (λr t=>if r=i/\t<kk then fm c (f r t) else f r t))/\G (F' wr v 282 (vt F))/\G (w.grownBy wr (A.map (·.block)))) (λE _=>C-(intOf E).toNat)
 ·exact⟨0,rfl,M,H3.eqf (λr t _ _=>s8),K,qj⟩
 ·clear K qj;obtain⟨kk,rfl,M',z,Q,cK⟩:=hrel;by_cases D:kk<C
  ·have N':=j' kk C;obtain⟨b,d⟩: ∃b,A=some ⟨b,0,none⟩:=by
    rcases z.own.2 with⟨_,h0⟩|⟨g',cap,cur,hv,_⟩
    ·have:=s.out;omega
    ·injection hv with d;exact⟨_,d⟩
   have ck:Ac=some ⟨b,i*C,none⟩:=by
    rw [<-iv.out,d];unfold xo;rw [qJ (by have:=s.out;have:=uK.out.2;omega),z_,Za,Ve]
   obtain⟨p,j⟩:=zn (i*C);rw [<-j] at ck;have l:=T z.own;rw [d] at l;have z':p+kk<n:=by have:=s.out;omega
   have u':i' wr ⟨b,p+kk,none⟩=J (gR ((f i kk).toNat:V)):=by
    rw [l.cellAt (p+kk) M,qD,Qt _ _ _ _ (by rw [<-uK.out.1];omega),j,(Jl D).1,(Jl D).2];simp [B8]
   have I':i' wr ⟨v,(f i kk).toNat,none⟩=J (gR ((fm c (f i kk)).toNat:V)):=by
    rw [Q.cell,pP _ _ (f i kk).toNat_lt,<-ln.out,Z5]
   have N9:wr.frozen? ⟨b,p+kk,none⟩=false:=l.frozenAt _;have bx:(f i kk).toNat<256:=(f i kk).toNat_lt;have N6:v≠b:=by
    have h1:b<(w:O):=HA _ d;omega
   replace d:=T d;subst ck;replace j:=T j;go_wp2;go_roundw
   case rel=>
    obtain⟨y,m'⟩:=l.stored (p+kk) (B8 (fm c (f i kk)));rw [<-JY,j.out,AR R C i kk _ _ HI.out D] at y;rw [<-j.out] at y;have X:wr.grownBy (wr.setCell ⟨b,p+kk,none⟩ (B8 (fm c (f i kk)))) (A.map (·.block)):=by rw [d.out];exact m'
    rw [<-d.out] at y;refine⟨kk+1,xh,M,(z.out.I1 X y).eqf (λr t _ _=> ?_),Q.far (p:=⟨b,p+kk,none⟩) (by show v≠b;omega) _,vu cK X⟩;by_cases h1:r=i
    ·subst h1;by_cases h2:t=kk
     ·subst h2;simp
     ·by_cases h3:t<kk
      ·rw [qJ M,qk ⟨rfl,h3⟩,qk ⟨rfl,M⟩]
      ·rw [qJ M,qJ M,qJ M]
    ·rw [qJ M,qJ M,qJ M]
   case measure=>simp [intOf];omega
  ·go_wp2;go_end0;refine⟨rfl,z.eqf (λr t _ ht=> ?_),cK⟩;unfold QK;by_cases h1:r=i
   ·rw [qk ⟨h1,M⟩,qk h1]
   ·rw [qJ M,qJ h1]
end
end
section
variable {A d:q'}{C R base e g j k m n o:O}{W c w:I}{f i l:O->O->AB}
section
open Go.RowKit
structure Pw (W:I) (base g R C:O) (A:q') (n k:O) (f:O->O->AB) (A':q') (n' k':O) (f':O->O->AB):Prop where
 a:Wk W base g 0 R C A n k f
 b:Wk W base g 3 R R A' n' k' f'
 ne: ∀x y,A=some x->A'=some y->x.block≠y.block
theorem Pw.below (h:Pw W base g R C A n k f d e j i) (l:r' W W c):Pw c base g R C A n k f d e j i:=⟨h.a.below l,h.b.below l,h.ne⟩
theorem Pw.opA (h:Pw W base g R C A n k f d j m l) (o:Wk c base g 0 R C A n k i) (q:W.grownBy c (A.map (·.block))):Pw c base g R C A n k i d j m l:=
 ⟨o,h.b.grown q h.a.ne (λy p e=>by
  cases A with
  |none=>simp at e
  |some x=>simp at e;exact h.ne x y rfl p e),h.ne⟩
theorem Pw.opB {d:I} {i:O} {c:q'} {p:O->O->AB} (h:Pw W base g R C A n k f c i j p) (m:Wk d base g 3 R R c i j l) (o:W.grownBy d (c.map (·.block))):Pw d base g R C A n k f c i j l:=
 ⟨h.a.grown o h.b.ne (λx q e=>by
  cases c with
  |none=>simp at e
  |some y=>simp at e;exact h.ne x y q rfl e.symm),m,h.ne⟩
theorem Pw.eqf {p:O} {o c:O->O->AB} (h:Pw W base g R C A n k f d m p o) (e: ∀i j,i<R->f i j=l i j) (q: ∀i j,i<R->o i j=c i j):Pw W base g R C A n k l d m p c:=⟨h.a.eqf (λi j hi _=>e i j hi),h.b.eqf (λi j hi _=>q i j hi),h.ne⟩
theorem Wk.frame {a:I} (h:Wk W base g o R C A n k f) (d:r' base w W) (c:W.grownBy a (A.map (·.block))):r' base w a:=
 d.grown c h.bs (λj b=>by
  cases A with
  |none=>simp at b
  |some x=>
   simp at b
   have:=(h.lt x rfl).1;omega)
theorem Pw.more {b:I} (h:Pw W base g R C A n k f d e j i) (l:r' base w W) (c:r' W W b):r' base w b:=l.trans (c.mono h.a.bs)
theorem Ox (h:Wk w base g o R C A n k f) (l:o=0\/o=3) (i col:O) (s:R<=255) (m:C<=255) (hi:i<R) (j:col<C):
  xG 292 #[mJ (some ⟨g,o,none⟩),i] w λe w'=> ∃a,e=t' (Z (some a) C (k-i*C))/\i' w' (a.add col)=J (gR ((f i col).toNat:V))/\r' w w w':=by
 obtain⟨a,b,q,t,c,r⟩:=(h.reads hi).byte (k:=col) j;rw [XH _ _ _ j] at c;injection c with c;subst c;have:=Y2 h l i s m hi;rw [q] at this;exact this.mono λe w' d=>⟨a,d.1,(d.2.cell (p:=a.add col) (by rw [xF];exact t)).trans r,d.2⟩
def Ko (at_ kk:O) (D:O->AB) (F:O->O->AB) (r t:O):UInt8:=if r<kk/\r≠at_ then F r t^^^fm (D r) (F at_ t) else F r t
theorem bJ (at_:O) (D:O->AB) (F:O->O->AB) (r t:O):F r t=Ko at_ 0 D F r t:=by
 unfold Ko;rw [qJ M]
theorem bV (at_ kk:O) (D:O->AB) (F:O->O->AB) (t:O):Ko at_ kk D F kk t=F kk t:=by
 unfold Ko;rw [qJ M]
theorem Pp (at_ kk:O) (D:O->AB) (F:O->O->AB) (h:kk=at_\/D kk=0) (r t:O):Ko at_ kk D F r t=Ko at_ (kk+1) D F r t:=by
 unfold Ko;by_cases h1:r=kk
 ·subst h1;rw [qJ M];rcases h with h|h
  ·rw [qJ M]
  ·by_cases h2:r=at_
   ·rw [qJ M]
   ·rw [qk ⟨M,h2⟩,h,Xi,VA]
 ·by_cases h2:r<kk/\r≠at_
  ·rw [qk h2,qk ⟨M,h2.2⟩]
  ·rw [qJ h2,qJ M]
theorem AT (at_ kk:O) (D:O->AB) (F:O->O->AB) (h:kk≠at_) (r t:O):Sz kk (D kk) at_ (Ko at_ kk D F) r t=Ko at_ (kk+1) D F r t:=by
 unfold Sz;by_cases h1:r=kk
 ·subst h1;rw [qk rfl,bV];unfold Ko;rw [qJ M,qk ⟨M,h⟩]
 ·rw [qJ h1];unfold Ko;by_cases h2:r<kk/\r≠at_
  ·rw [qk h2,qk ⟨M,h2.2⟩]
  ·rw [qJ h2,qJ M]
theorem AW (at_ R col p:O) (W X:O->O->AB) (r t:O) (a:r<R):Ko at_ R (λr=>QK at_ (fi (x9 at_ p W at_ col)) (x9 at_ p W) r col) (QK at_ (fi (x9 at_ p W at_ col)) (x9 at_ p X)) r t=Vz at_ col p W X r t:=by
 unfold Ko Vz VP;by_cases h1:r=at_
 ·rw [qJ M,qk h1]
 ·rw [qk ⟨a,h1⟩,qJ h1]
theorem Sj {x u:O} {y:q'} {v:O->O->AB} (h:Pw w base g R C A n k f y x u v) (at_ col:O) (D:R<=255) (cK:C<=255) (hat:at_<R) (hcol:col<C):
  xG 280 #[mJ g,at_,col] w λe w'=>
   e=t' (.bool (decide (h9 (λt=>f t col) R at_<R)))/\r' base w w'/\
   Pw w' base g R C A n k (if h9 (λt=>f t col) R at_<R then Vz at_ col (h9 (λt=>f t col) R at_) f f else f) y x u (if h9 (λt=>f t col) R at_<R then Vz at_ col (h9 (λt=>f t col) R at_) f v else v):=by
 have PS:=uY (λt=>f t col) (zr hat);generalize h9 (λt=>f t col) R at_=p at*;obtain⟨p1,p2,p3,p4⟩:=PS;replace p3:=T p3;replace p4:=T p4;have H:=T h;have RA:=T (λW o q i (l:Pw W base g R C A n k o y x u q) (hi:i<R)=>Ox l.a (.inl rfl) i col D cK hi hcol);have SA:=T (λW o q i j (l:Pw W base g R C A n k o y x u q) (hi:i<R) (cL:j<R)=>Ae l.a (.inl rfl) i j D cK hi cL);have SB:=T (λW o q i j (l:Pw W base g R C A n k o y x u q) (hi:i<R) (cL:j<R)=>Ae l.b (.inr rfl) i j D D hi cL);have CA:=T (λW o q i c (l:Pw W base g R C A n k o y x u q) (hi:i<R)=>bZ l.a (.inl rfl) i c D cK hi);have CB:=T (λW o q i c (l:Pw W base g R C A n k o y x u q) (hi:i<R)=>bZ l.b (.inr rfl) i c D D hi);have DA:=T (λW o q i c j (l:Pw W base g R C A n k o y x u q) (hi:i<R) (cL:j<R)=>AE l.a (.inl rfl) i c j D cK hi cL);have DB:=T (λW o q i c j (l:Pw W base g R C A n k o y x u q) (hi:i<R) (cL:j<R)=>AE l.b (.inr rfl) i c j D D hi cL);have IV:=T (λW (a:AB)=>wG a.toNat W a.toNat_lt);have CR:=T (λW o q (l:Pw W base g R C A n k o y x u q)=>l.a.c0);have HCol:=T hcol;have colb:col<255:=M;clear h cK;go_wp2;go_loopw [7] (λv7 wr=> ∃i:O,v7=(i:la)/\at_<=i/\i<=p/\G (Pw wr base g R C A n k f y x u v)/\G (r' base w wr)) (λv7 _=>p-(intOf v7).toNat)
 ·exact⟨at_,rfl,M,p1,H,qZ _ _⟩
 ·obtain⟨i,rfl,hi1,hi2,m,s⟩:=hrel;have r0:=CR _ _ _ m.out;by_cases hip:i<p
  focus
   have hiR:i<R:=M;have p':=j' i R;have hz:(f i col).toNat=0:=by have h0:f i col=0:=p3 i hi1 hip;rw [h0];rfl
   have dlt:decide ((i:V)<(R:V))=true:=by simpa using p'
   have P:=RA wr f v i m hiR;rw [hz] at P;replace P:=T P
  rotate_left
  focus
   have hip2:i=p:=M;subst hip2;by_cases ln:i<R
   focus
    have p':=j' i R;have hne: ¬(i:V)=(R:V):=M;have dlt:decide ((i:V)<(R:V))=true:=by simpa using p'
    have I':=p4 ln;have hz: ¬(f i col).toNat=0:=λe=>I' (Xf (by rw [e];rfl));have hzI: ¬((f i col).toNat:V)=0:=M;have P:=T (RA wr f v i m ln);replace I':=T I';generalize hfv:(f i col).toNat=fv at*;replace hfv:=T hfv
   rotate_left
   ·have hiR:i=R:=M;have dlt:decide ((i:V)<(R:V))=false:=SZ;have p':=vv R i;have heq:(i:V)=(R:V):=M;go_wp2;go_ret;refine⟨by first|rfl|rw [qc ln],s.out, ?_⟩
    first
     |exact m.out
     |(rw [qJ ln,qJ ln];exact m)
  rotate_left
  all_goals
   go_wp2_with fail;refine P.mono ?_;rintro e w1 ⟨ad,rfl,ec,uK⟩;have d':=T (m.more s uK);have N:=T (m.below uK)
  ·clear uK m s r0;go_wp2_with fail;refine xk ?_;exact⟨i+1,xh,M,M,N,d'⟩
  ·clear uK m s r0;have r1:=CR _ _ _ N.out;go_wp2_with fail;have e0:x9 at_ i f at_ col=f i col:=qk rfl;have SAi:=T (λW l=>SA.out W f v at_ i l M ln);have SBi:=T (λW l=>SB.out W (x9 at_ i f) v at_ i l M ln);have qj:at_<R:=M;go_wp2_with fail;refine zC (SAi _ N) ?_;rintro w2 ⟨hW2,O'⟩;have D':=T (N.opA hW2 O');have HB2:=T (N.a.frame d' O');clear hW2 O' r1;go_wp2_with fail;refine zC (SBi _ D') ?_;rintro w3 ⟨hW3,G'⟩;have iL:=T (D'.opB hW3 G');have HB3:=T (D'.b.frame HB2 G');clear hW3 G';obtain⟨E,ha0⟩: ∃E,G (x9 at_ i f at_ col=E):=⟨_,rfl⟩;have cB:=RA _ _ _ at_ iL qj;rw [ha0.out] at cB;replace cB:=T cB;have ck:=IV.out;have ck:=T (λW=>ck W E);rw [<-fT] at ck;have hx8:=E.toNat_lt;have CAi:=T (λW l=>CA.out W (x9 at_ i f) (x9 at_ i v) at_ (fi E) l qj);have CBi:=T (λW l=>CB.out W (QK at_ (fi E) (x9 at_ i f)) (x9 at_ i v) at_ (fi E) l qj);have hy8:=(fi E).toNat_lt;go_wp2_with fail;refine cB.mono ?_;rintro e w4 ⟨ad2,rfl,ec2,S'⟩;have HB4:=T (iL.more HB3 S');have m':=T (iL.below S');clear S';go_wp2_with fail;refine Ω (ck _) ?_;clear ec2;go_wp2_with fail;refine zC (CAi _ m') ?_;rintro w5 ⟨hW5,N'⟩;have z':=T (m'.opA hW5 N');have HB5:=T (m'.a.frame HB4 N');clear hW5 N';go_wp2_with fail;refine zC (CBi _ z') ?_;rintro w6 ⟨hW6,J'⟩;have M':=T (z'.opB hW6 J');have HB6:=T (z'.b.frame HB5 J');clear hW6 J';have FE:=T (λr t z=>AW at_ R col i f f r t z);have N6:=T (λr t z=>AW at_ R col i f v r t z);rw [ha0.out] at FE N6;generalize QK at_ (fi E) (x9 at_ i f)=F,QK at_ (fi E) (x9 at_ i v)=iv at*;have r6:=CR _ _ _ M'.out;clear hx8 hy8 hz hzI;go_wp2;go_loopw [84] (λOX wr=> ∃kk:O,OX=(kk:la)/\kk<=R/\G (Pw wr base g R C A n k (Ko at_ kk (λr=>F r col) F) y x u (Ko at_ kk (λr=>F r col) iv))/\G (r' base w wr)) (λOX _=>R-(intOf OX).toNat)
   ·exact⟨0,rfl,M,M'.eqf (λr t _=>bJ _ _ _ r t) (λr t _=>bJ _ _ _ r t),HB6⟩
   ·clear HB6 r6;obtain⟨kk,rfl,hkR,m,s⟩:=hrel;by_cases P':kk<R
    ·have hlt':=j' kk R;have ih:=RA _ _ _ kk m P';rw [bV] at ih;obtain⟨d,X⟩: ∃d,G (F kk col=d):=⟨_,rfl⟩;rw [X.out] at ih;replace ih:=T ih;have Y':=d.toNat_lt;by_cases L:kk=at_
     focus
      have hkaI:((kk:V) !=(at_:V))=false:=by rw [L];simp
      have hkaI2:((kk:V)==(at_:V))=true:=by rw [L];simp
      have HS:=T (m.eqf (λr t _=>Pp at_ kk (λr=>F r col) F (.inl L) r t) (λr t _=>Pp at_ kk (λr=>F r col) iv (.inl L) r t));replace L:=T L
     rotate_left
     focus
      have hkaI:((kk:V) !=(at_:V))=true:=SZ;have hkaI2:((kk:V)==(at_:V))=false:=SZ;by_cases K:d=0
      focus
       have cY:d.toNat=0:=by rw [K];rfl
       have HS:=T (m.eqf (λr t _=>Pp at_ kk (λr=>F r col) F (.inr (by show F kk col=0;rw [X.out,K])) r t) (λr t _=>Pp at_ kk (λr=>F r col) iv (.inr (by show F kk col=0;rw [X.out,K])) r t));rw [cY,Int.natCast_zero] at ih;replace cY:=T cY;clear Y';replace K:=T K
      rotate_left
      ·have cY: ¬d.toNat=0:=λe=>K (Xf (by rw [e];rfl));have hdI: ¬(d.toNat:V)=0:=M;have DAk:=T (λW o q l=>DA.out W o q kk d at_ l P' qj);have DBk:=T (λW o q l=>DB.out W o q kk d at_ l P' qj);have SA2:G (∀r t,Sz kk d at_ (Ko at_ kk (λr=>F r col) F) r t=Ko at_ (kk+1) (λr=>F r col) F r t):=λr t=>by rw [<-X.out];exact AT at_ kk (λr=>F r col) F L r t
       have SB2:G (∀r t,Sz kk d at_ (Ko at_ kk (λr=>F r col) iv) r t=Ko at_ (kk+1) (λr=>F r col) iv r t):=λr t=>by rw [<-X.out];exact AT at_ kk (λr=>F r col) iv L r t
       obtain⟨dn,hdn2⟩: ∃dn,G (d.toNat=dn):=⟨_,rfl⟩;rw [hdn2.out] at DAk DBk ih Y' cY hdI;replace K:=T K;go_wp2_with fail;refine ih.mono ?_;rintro e w7 ⟨X',rfl,U',B⟩;have Q:=T (m.more s B);have hh:=T (m.below B);clear B m s;go_wp2_with fail;refine zC (DAk _ _ _ hh) ?_;rintro w8 ⟨Z',N9⟩;have u':=T (hh.opA Z' N9);have HB8:=T (hh.a.frame Q N9);clear Z' N9 U';go_wp2_with fail;refine zC (DBk _ _ _ u') ?_;rintro w9 ⟨hW9,Q'⟩;have HP9:=T ((u'.opB hW9 Q').eqf (λr t _=>SA2.out r t) (λr t _=>SB2.out r t));have HB9:=T (u'.b.frame HB8 Q');clear hW9 Q';go_wp2_with fail;refine xk ?_;exact⟨kk+1,xh,M,HP9,HB9⟩
     all_goals
      go_wp2_with fail;refine ih.mono ?_;rintro e w7 ⟨X',rfl,U',B⟩;have Q:=T (HS.more s B);have hh:=T (HS.below B);clear B m s;go_wp2_with fail;refine xk ?_;exact⟨kk+1,xh,M,hh,Q⟩
    ·have hge:(R:V)<=kk:=M;have hkk:kk=R:=M;subst hkk;go_wp2;go_ret;refine⟨by first|rfl|rw [qw ln],s.out, ?_⟩
     first
      |exact m.eqf (λr t z=>FE.out r t z) (λr t z=>N6.out r t z)
      |(rw [qk ln,qk ln];exact m.eqf (λr t z=>FE.out r t z) (λr t z=>N6.out r t z))
end
end
section
section
open Go.RowKit
theorem Yt {B:O} {a w:I} (h:r' B a.drew w):r' B a w:=⟨h.os,h.tape,h.output,h.size,h.block⟩
theorem AS {R C n k:O} {A:Option Addr} {bs:S AB} {w:I} (iv:R<=255) (hC:C<=255) (P:n=R*C) (h:E' w (w:O) 1 A n (bs.map B8)):
  xG 279 #[.agg #[R,C,Z A n k]] w λe w'=> ∃g b c m n2 o,e=t' (mJ (some ⟨g,0,none⟩))/\r' (w:O) w w'/\
   Pw w' (w:O) g R C b n c (L' bs C) m n2 o pf:=by
 have d':U bs=R*C:=by have:=h.len;omega
 have hN:n<=65025:=by rw [P];exact fN iv hC
 have cK:=T (λ(W:I) (ck:r' (w:O) w W)=>yV A n k (w:O) bs W (h.below ck) ck.size M);have cB:=T (λW=>AQ R R pf W iv iv (λi j W' _ _ _=>wo i j W'));have HC:G (bs=zP C (L' bs C) (R*C)):=Rr bs R C d';have HN:=T P;unfold jQ at cK;unfold mC at cB;have D':5≠401:=FV;have z':5≠154:=FV;clear h d' P;go_enter func279,ntmps279
 go_wp2_with fail;have u:F' (w (Y #[R,C,Z A n k] 154)) (w:O) 154 #[R,C,Z A n k]:=F'.new _ _ _;have t:r' (w:O) w (w (Y #[R,C,Z A n k] 154)):=(qZ _ _).alloc (qx _) _;generalize w (Y #[R,C,Z A n k] 154)=w1 at*
 refine(cK.out _ t).mono ?_;rintro e D ⟨b,c,rfl,ln⟩;have q:=u.below ln.below u.lt;have v:=t.trans (ln.below.mono t.size);have F:xp D (w:O) 5 1 (Z b n c) n (bs.map B8):=qi ln.1 t.size;have m':D.frozen? ⟨(w:O),2,none⟩=false:=q.frozen 2;have x2:=q.cell 2;have d:=q.zh 2 (Z b n c);have r:=v.setCell (p:=⟨(w:O),2,none⟩) (qx _) (Z b n c);have B:=XG F q (j:=2) (Z b n c);have G':=u.lt;clear ln u t;replace q:=T q;replace v:=T v;replace F:=T F
 go_wp2_with fail;replace d:F' (D.setCell ⟨(w:O),2,none⟩ (Z b n c)) (w:O) 154 #[R,C,Z b n c]:=by simpa using d
 clear m' x2 q v F;generalize D.setCell ⟨(w:O),2,none⟩ (Z b n c)=f at*
 have u':(w:O)<(f:O):=d.lt;have N:G (∀W,r' f f W->i' W (w:O)=J (R:la)/\i' W ⟨(w:O),1,none⟩=J (C:la)/\i' W ⟨(w:O),2,none⟩=J (Z b n c)):=λW cL=>⟨(d.below cL d.lt).cell 0,(d.below cL d.lt).cell 1,(d.below cL d.lt).cell 2⟩;replace d:=T d;replace r:=T r;replace B:=T B;refine zv 11 (λW=>i' W (w:O)=J (R:la)/\i' W ⟨(w:O),1,none⟩=J (C:la)/\i' W ⟨(w:O),2,none⟩=J (Z b n c)) AL (N.out f (qZ _ _)) (λL=> ?_);refine zq [0,1,2,3,4,5] (a':= ?_) ?_;refine IA 6 rfl AL SQ (λK s=> ?_);go_simp
 (go_at_call 142;((with_reducible refine(cB.out _).mono ?_);rintro e l ⟨m,o,rfl,z,X⟩);have E:=T (Yt X);replace z:=T z;clear X)
 refine s _ _ ((N.out _ E)) (λL=> ?_);clear s K;try simp only [Act.put,qQ,qY,qV]
 refine zq [7,8] (a':= ?_) ?_;refine IA 9 rfl AL SQ (λK s=> ?_);go_simp;skip
 refine s _ _ ((N.out _ (E.alloc E.size _))) (λL=> ?_);clear s K;try simp only [Act.put,qQ,qY,qV]
 refine zq [10] (a':= ?_) ?_;refine zV AL ?_ _;clear L;have H:r' f f l:=E.out;have cY:xp l (w:O) 5 1 (Z b n c) n ((zP C (L' bs C) (R*C)).map B8):=by
  rw [<-HC.out];exact qG B H
 have qj:xp l (w:O) 5 1 (Z m (R*R) o) (R*R) ((zP R pf (R*R)).map B8):=qi z r.size;have hh: ∀a,b=some a->a.block<(f:O):=λa Q=>(B.lt a.block (by rw [jH,Q];rfl)).2
 have l2: ∀a,m=some a->(f:O)<=a.block/\a.block<(l:O):=λa Q=>z.lt a.block (by rw [jH,Q];rfl)
 have p':(f:O)<=(l:O):=H.size;have iL:(w:O)<=(l:O):=qv r.size p';have ih:r' (w:O) w (l (Y #[R,C,Z b n c,R,R,Z m (R*R) o] 401)):=(r.trans (H.mono r.size)).alloc iL _;have uK:Pw (l (Y #[R,C,Z b n c,R,R,Z m (R*R) o] 401)) (w:O) l R C b n c (L' bs C) m (R*R) o pf:=by
  refine⟨⟨(F'.new _ _ _).cell 0,(F'.new _ _ _).cell 1,(F'.new _ _ _).cell 2,cY.alloc _,s8, ?_,SZ⟩,⟨(F'.new _ _ _).cell 3,(F'.new _ _ _).cell 4,(F'.new _ _ _).cell 5,qj.alloc _,s8, ?_,SZ⟩, ?_⟩
  ·cases b with
   |none=>simp
   |some a=>have:=hh a rfl;simp;omega
  ·cases m with
   |none=>simp
   |some a=>have:=l2 a rfl;simp;omega
  ·intro x y hx hy
   have h1:=hh x hx;have h2:=l2 y hy;omega
 replace uK:=T uK;replace ih:=T ih;clear cY qj hh l2
 go_wp2_with fail;go_ret;exact⟨_,b,c,m,R*R,o,rfl,ih.out,uK.out⟩
end
end
section
variable {a:S (S la)}{j:O}{vs:S la}
section
open Go.RowKit
theorem XC (z:la) (n:O) (h:z.cells.size=1):(Builtin.zeroCells z.cells n).size=n:=by unfold Builtin.zeroCells;rw [Array.size_map,Array.size_range,h,z_]
structure UX (W:I) (B:O) (A:q') (m:O) (vss:S (S la)):Prop where
 len:U vss=m
 at_: ∀j,j<m-> ∃ad Aj nj cj vs,A=some ad/\vss[j]? =some vs/\i' W (ad.add j)=J (Z Aj nj cj)/\E' W B 1 Aj nj vs/\ ∀u∈vs,u.oneCell'=true
theorem UX.below {W a:I} {B m:O} {A:q'} {d:S (S la)} (h:UX W B A m d) (b:r' W W a):UX a a A m d:=by
 refine⟨h.len,λj t=> ?_⟩;obtain⟨g,y,n,v,vs,r,s,i,c,q⟩:=h.at_ j t;refine⟨g,y,n,v,vs,r,s,(b.cell (yM i)).trans i, ?_,q⟩;refine⟨c.1,λw=> ?_⟩;obtain⟨k,e,z,l⟩:=c.2 w;have f:k.block<(W:O):=by
  have x:0<U vs:=by have:=c.1;omega
  have h0:=l 0 _ (qX x);have:=yM h0;rwa [xF] at this
 exact⟨k,e,qB f b.size,λj u o=>(b.cell (by rw [xF];exact f)).trans (l j u o)⟩
def La (a:S (S la)):Nat:=U a.flatten
theorem dX (h:a[j]? =some vs):(a.take (j+1)).flatten=(a.take j).flatten++vs:=by
 rw [qs,h];simp
theorem K9 (h:a[j]? =some vs):La (a.take (j+1))=La (a.take j)+U vs:=by
 unfold La;rw [dX h,qK]
theorem FK (a:S (S la)) (j:O):La (a.take j)<=La a:=by
 unfold La;have h:a.flatten=(a.take j).flatten++(a.drop j).flatten:=by rw [<-xM,QG]
 rw [h,qK];omega
theorem Su (n:O) (w:I) (k:n<=1000000000):xG 281 #[z8,n] w λe w'=> ∃A c,e=t' (Z A 0 c)/\xp w' w 30 1 (Z A 0 c) 0 []/\r' w w w':=by
 obtain⟨j,hi,f,h,g⟩:=qA Zz;by_cases h0:n=0
 ·subst h0;go_wp2;go_ret;exact⟨none,0,rfl,qP _ _ _ 1,qZ _ _⟩
 ·have l:=yn n;have o:=grownCap_ge w n 0 30;have a:=grownCap_le_maxLen w n 0 30 SJ;have i: ∀d,(Builtin.append_ #[87,3] d #[z8,n]).run prog w=
   .ok (Z w n (grownCap w n 0 30)) (w.drew (Y (Builtin.zeroCells (Value.slice none 0 0).cells n++Builtin.zeroCells (Value.slice none 0 0).cells (grownCap w n 0 30-n)) 30)):=λd=>Lib.run_append_nil_zeros w _ _ d _ j (Value.slice none 0 0) .i64 .i64 jr yu hi f n M M M (by rw [g];omega)
  generalize grownCap w n 0 30=m at*;have b:(Builtin.zeroCells (Value.slice none 0 0).cells n++Builtin.zeroCells (Value.slice none 0 0).cells (m-n)).size=m*1:=by rw [Array.size_append,XC _ _ rfl,XC _ _ rfl];omega
  generalize Builtin.zeroCells (Value.slice none 0 0).cells n++Builtin.zeroCells (Value.slice none 0 0).cells (m-n)=C at*;replace b:=T b;replace a:=T a;go_in;go_wp2_with (at_builtin;refine Lib.wpList_append_run _ rfl _ _ _ _ rfl _ _ rfl rfl _ _ (i _) ?_)
  all_goals
   go_ret;exact⟨_,_,rfl,World.ownsRow_made w.drew C m (qx _) a b,(qZ _ _).drew.alloc (qx _) _⟩
theorem ev (A:q') (m c:O) (a:S (S la)) (w:I) (hm:m<=100000) (ht:La a<=1000000000) (h:UX w (w:O) A m a):
  xG 262 #[Z A m c] w λe w'=> ∃cL N,e=t' (Z cL (La a) N)/\xp w' (w:O) 30 1 (Z cL (La a) N) (La a) a.flatten/\r' (w:O) w w':=by
 have H:=T (λW (hW:r' (w:O) w W)=>h.below hW);obtain⟨i0,hi,ih,v,K⟩:=xt Zz;have hh:=T (λj=>FK a j);have D:G (∀j,m<=j->a.take j=a):=λj hj=>qH (by rw [h.len];exact hj);have P:=T (λn W hn=>Su n W hn);clear h;obtain⟨qj,p⟩: ∃qj,La a=qj:=⟨_,rfl⟩;rw [p] at hh ht⊢;replace p:=T p;go_wp2;go_loop [11,3] (λB v3=> ∃j s:O,B=(j:la)/\v3=(s:la)/\j<=m/\s<=1000000000/\G (s=La (a.take j))) (λB _=>m-(intOf B).toNat)
 ·exact⟨0,0,rfl,rfl,M,M,by show 0=La (a.take 0);simp [La]⟩
 ·obtain⟨j,s,rfl,rfl,D',hs,HS⟩:=hrel;by_cases z:j<m
  ·have z':=j' j m;obtain⟨ad,cY,d,cK,vs,ln,g,hc,f,-⟩:=(H w (qZ _ _)).at_ j z;subst ln;have o:G (s+d=La (a.take (j+1))):=by unfold Hid;rw [K9 g,<-HS.out];have:=f.1;omega
   have L:=hh (j+1);rw [<-o.out] at L;clear g f;have G':(s:V)+(d:V)=((s+d:O):V):=M;generalize s+d=ck at*;go_wp2;go_round
   case rel=>exact⟨j+1,ck,xh,rfl,M,M,o⟩
   case measure=>simp [intOf];omega
  ·have r:G (s=qj):=by unfold Hid;rw [HS.out,D.out j M];exact p.out
   have u:=r.out;subst u;clear HS;go_wp2_with fail;refine(P _ _ hs).mono ?_;rintro e w1 ⟨Q,c1,rfl,uK,q⟩;have iv:G (xp w1 (w:O) 30 1 (Z Q 0 c1) 0 (a.take 0).flatten):=by unfold Hid;rw [vG];exact uK
   replace q:=T q;clear uK;go_wp2;go_loopw [27,6] (λy v6 wr=> ∃(j b l:O) (i:q'),y=(j:la)/\v6=Z i b l/\j<=m/\b<=1000000000/\G (b=La (a.take j))/\G (r' (w:O) w wr)/\G (xp wr (w:O) 30 1 (Z i b l) b (a.take j).flatten)) (λy _ _=>m-(intOf y).toNat)
   ·exact⟨0,0,c1,Q,rfl,rfl,M,M,by show 0=La (a.take 0);simp [La],q,iv⟩
   ·obtain⟨j,b,l,i,rfl,rfl,D',I',HS,k,t⟩:=hrel;by_cases z:j<m
    ·have z':=j' j m;obtain⟨ad,cY,d,cK,vs,ln,g,hc,f,F⟩:=(H _ k).at_ j z;subst ln;have o:G (b+d=La (a.take (j+1))):=by unfold Hid;rw [K9 g,<-HS.out];have:=f.1;omega
     have L:=hh (j+1);rw [<-o.out] at L;have u':=T (dX g);have p':b+d<=maxLen:=SJ;have m':(b+d)*24<=140737488355328:=M;replace f:=T f;replace F:=T F;clear g;go_wp2_with (at_builtin;refine qF _ rfl (.tmp 31) (.tmp 32) 87 rfl (w:O) 30 i0 (Value.slice none 0 0) 1 24 jr hi ih v K rfl M i b l _ rfl t (wr:O) cY d cK _ rfl f F p' m' k.size ?_;intro A3 cB X C R d';have E:=zG k R t k.size;replace C:=T C;replace E:=T E;clear R d');refine xk ?_;exact⟨j+1,b+d,cB,A3,xh,rfl,M,M,o,E,by rw [u'.out];exact C⟩
    ·have r:G (b=s):=by unfold Hid;rw [HS.out,D.out j M];exact p.out
     have u:=r.out;subst u;have x:=D j M;rw [x] at t;go_wp2;go_ret;exact⟨i,l,rfl,t,k⟩
end
end
section
variable {B W:O->O->AB}{n:O}
section
open Go.RowKit
theorem I2 (w:I) (a b:TypeId) (c1 c2:Array la):
  F' ((w (Y c1 a)) (Y c2 b)) w a c1/\F' ((w (Y c1 a)) (Y c2 b)) ((w:O)+1) b c2/\r' w w ((w (Y c1 a)) (Y c2 b)):=by
 refine⟨(F'.new w a c1).alloc _, ?_,(j1 _).alloc s8 _⟩;have h:=F'.new (w (Y c1 a)) b c2;simpa using h
def iO (w:I) (R:O) (X:Option (O->O->AB)) (e:Ending) (w':I):Prop:=
 match X with
 |some x=>Ps w R R (zP R x (R*R)) 0 e w'
 |none=>Ps w 0 0 [] 14 e w'
theorem Rw {i:O} (hi:i<n):Zn n (n-i) i W B=if h9 (λt=>W t i) n i<n then Zn n (n-(i+1)) (i+1) (Vz i i (h9 (λt=>W t i) n i) W W) (Vz i i (h9 (λt=>W t i) n i) W B) else none:=by
 have e:n-i=(n-(i+1))+1:=M;rw [e];rfl
theorem Sx:Zn n (n-n) n W B=some B:=by
 rw [xO];rfl
theorem Rs (R:O) (A:q') (n k:O) (bs:qn) (w:I) (K:R<=255) (ck:n=R*R) (h:E' w (w:O) 1 A n (bs.map B8)):
  xG 261 #[.agg #[R,R,Z A n k]] w (iO w R (JL R (L' bs R))):=by
 have L:=λW=>T (cG R R A n k W);unfold mC at L;have u':Hw (R:V) (R:V) n=true:=by
  unfold Hw;rw [ck,zB];simp;omega
 rw [u'] at L;have hz:=(jb YE).1;have WO:=T (λ(W:I) (hB:r' (w:O) w W)=>AS (R:=R) (C:=R) (n:=n) (k:=k) (A:=A) (bs:=bs) (w:=W) K K ck ((h.below hB).more hB.size));have G':=T (λ(W:I) base g P n1 cL F1 f l c F2 (hP:Pw W base g R R P n1 cL F1 f l c F2) (i:O) (hi:i<R)=>Sj hP i i K K hi hi);obtain⟨ln,hG⟩: ∃ln,G (JL R (L' bs R)=ln):=⟨_,rfl⟩;rw [hG.out];have I':G (Zn R (R-0) 0 (L' bs R) pf=ln):=hG;have OX:=j9;clear u' ck h;go_in;go_wp2_with fail;obtain⟨m,hh,d'⟩:=I2 w 154 154 #[R,R,Z A n k] #[(),(),z8];generalize (w (Y #[R,R,Z A n k] 154)) (Y #[(),(),z8] 154)=o at*;have cY:(w:O)<(w:O)+1:=M;have J':(w:O)+1<(o:O):=hh.lt;have x:G (∀W,r' o o W->r' (w:O) w W/\F' W ((w:O)+1) 154 (mC 0 0 z8)):=λW s=>⟨d'.trans (s.mono d'.size),hh.below s hh.lt⟩;have C2:G (∀W,r' o o W->i' W (w:O)=J (R:la)/\i' W ⟨(w:O),1,none⟩=J (R:la)/\i' W ⟨(w:O),2,none⟩=J (Z A n k)):=λW s=>⟨(m.below s m.lt).cell 0,(m.below s m.lt).cell 1,(m.below s m.lt).cell 2⟩;clear m hh d';generalize (w:O)+1=q at*;refine zC (L _).out ?_;intro D d;obtain⟨iv,cK,uK⟩:=C2 D d;replace d:=T d;go_wp2_with fail;refine(WO _ (x _ d).1).mono ?_;rintro e w2 ⟨g,P,cL,f,l,c,rfl,u,E⟩;have m':=T (zX d u);have z':G ((o:O)<=(D:O)):=d.size;replace u:=T u;replace E:=T E;clear iv cK uK;obtain⟨iv,cK,uK⟩:=C2 w2 m'.out;go_wp2_with fail;clear iv cK uK;go_loopw [21] (λX wr=> ∃(i:O) (W B:O->O->AB),X=(i:la)/\i<=R/\G (Pw wr D g R R P n cL W f l c B)/\G (r' D D wr)/\G (Zn R (R-i) i W B=ln)) (λX _=>R-(intOf X).toNat)
 ·exact⟨0,L' bs R,pf,rfl,M,E,u,I'⟩
 ·obtain⟨i,W,B,rfl,N9,j,v,N⟩:=hrel;have H:=T (zX d (v.mono (qx _)));by_cases iL:i<R
  ·have O':=j' i R;have a:=G' _ _ _ _ _ _ _ _ _ _ _ j i iL;have p:=Rw (W:=W) (B:=B) iL;by_cases F:h9 (λt=>W t i) R i<R
   ·simp only [F,if_true,decide_true] at a p;replace a:=T a;have N6:G (Zn R (R-(i+1)) (i+1) (Vz i i (h9 (λt=>W t i) R i) W W) (Vz i i (h9 (λt=>W t i) R i) W B)=ln):=by
     unfold Hid;rw [<-p];exact N.out
    clear F p;go_wp2_with fail;refine zC a ?_;rintro w3 ⟨z,y⟩;have ih:=T (v.trans z);replace y:=T y;clear z v j;go_wp2_with fail;refine xk ?_;exact⟨i+1,_,_,xh,M,y,ih,N6⟩
   ·simp only [F,if_false,decide_false] at a p;replace a:=T a;have D':ln=none:=by rw [<-N.out,p]
    subst D';clear F p;go_wp2_with fail;refine zC a ?_;rintro w3 ⟨z,y⟩;have ih:=T (zX d ((v.trans z).mono (qx _)));have r:=T (x _ ih).2;have qj:=T (x _ ih).1;clear z y v j;go_wp2_with (refine qC rfl 154 _ _ rfl q (mC 0 0 z8) rfl rfl 154 (mC 0 0 z8) r j9 rfl (Jb _ _ _ _ _) ?_);exact qW (zN rfl _ _ q (mC 0 0 z8) (e' 14) rfl rfl (qN _ q 154 _ (mC 0 0 z8) (0,0) _ (r.row _) zL rfl j9)) rfl ⟨none,0,rfl,qP _ _ _ 1,zu qj (zr cY) _⟩
  ·have N':=vv R i;have Q:i=R:=M;have M':G (ln=some B):=by
    unfold Hid;rw [<-N.out,Q];exact Sx
   have cB:G (l=R*R):=j.b.len.1;have z0:=j.b.c0;have z1:=j.b.c1;have z2:=j.b.c2;have HO:=T j.b.own;have r:=T (x _ H).2;have qj:=T (x _ H).1;simp only [Nat.reduceAdd] at z1 z2;have p':=yj R B (R*R);replace Q:=T Q;go_wp2_with (refine qC rfl 154 _ _ rfl q (mC R R (Z f l c)) rfl rfl 154 (mC 0 0 z8) r j9 rfl (Jb _ _ _ _ _) ?_);refine qW (zN rfl _ _ q (mC R R (Z f l c)) () rfl rfl (qN _ q 154 _ (mC R R (Z f l c)) (0,0) _ (r.row _) zL rfl j9)) rfl ?_;rw [M'.out];refine⟨f,c,by rw [p',cB.out], ?_,zu qj (zr cY) _⟩;rw [p',<-cB.out];have:=ZJ (qi HO (qv (zr (Nat.lt_trans cY J')) z')) r (mC R R (Z f l c));rw [<-cB.out] at this;exact this
end
end
section
section
open Go.RowKit Go.Shelf
attribute [local go_sem] J4
def Qc (A:q') (ch x:O):Value:=Z (A.map (·.add (x*ch))) ch ch
theorem eX (A:q') (n c i s ch:O) (g:s=i+ch) (h1:1<=ch) (e:s<=c) (W:I):
  (Instr.slice 30 (Z A n c) (some (i:la)) (some (s:la)) (some (s:la))).run prog W= .ok (Z (A.map (·.add i)) ch ch) W:=by
 have ht:prog.underlying 30=J (.slice (prog.elem 30)):=AL;rw [run_slice_lhm W _ A n c ht .i64 .i64 .i64 (i:V) _ (s:V) M M (Int.le_refl _) M];have b:(sizeOf (prog.elem 30)).run prog W= .ok 1 W:=by
  obtain⟨j,hi,f,a,h⟩:=qA xR;have d:prog.elem 30=5:=AL;rw [d];simp [sizeOf,typeInfo,hi,a]
 rw [b];simp only [Result.andThen,zc,sliced];rw [qJ M,z_,show s-i=ch by omega]
theorem Vv (q k:O) (h:k<q):(List.finRange q).take (k+1)=(List.finRange q).take k++[⟨k,h⟩]:=by
 rw [qs,qX (by simpa using h)];simp
theorem SU (F:Fence) (n:O) (hf:F.fn 99) (ln:F.round=none) (hn:1<=n) (l t g r:O) (A:q') (N c ch q:O) (D:N=q*ch) (h1:1<=ch) (hc:N<=c) (D':N<=1000000000) (hh L:S (Fin q)->I->Prop) (qj: ∀s W m,hh s W->hh s (W.drewN m))
  (Q: ∀a x W,hh a W->U a<q->YieldAt F (n-1) prog l #[Qc A ch x.val] W λe d=>
   (e=t' true/\hh (a++[x]) d/\r' r W d)\/(e=t' false/\L (a++[x]) d))
  (W:I) (cK:i' W t=J (Z A N c)) (m':i' W g=J (ch:la)) (hs:t<r) (E:g<r) (h0:hh [] W):
  CallsIn F n prog 99 #[.func (.yield l) #[] #[],mJ t,mJ g] W λe d=>(∃v,e=t' v)/\
   ((∃ih,ih=List.finRange q/\hh ih d)\/(∃a,(∃k,k<=q/\a=(List.finRange q).take k)/\L a d)):=by
 obtain⟨R,hi,d',C,iL⟩:=qA xR;have K:=T (λ(i:O) (h:i<=N)=>jI _ 5 R 1 qu hi C A N c i .i64 h);have H:=T (λ(i s:O) (h2:s=i+ch) (h3:s<=c)=>eX A N c i s _ h2 h1 h3);clear hi d' C iL;have B:=T D;clear D;refine callsIn_of_wp func99 rfl hf ?_ ln;simp only [ntmps99,xd,qf,zF,Nat.reduceAdd,Nat.reduceSub,ya,yA,QI,yI,xY,Qy];gi_wp2;gi_loopw [4] (λz wr=> ∃k i:O,k<=q/\z=(i:la)/\i<=N/\G (i=k*ch)/\hh ((List.finRange q).take k) wr/\r' r W wr)
  (λz _=>N-(intOf z).toNat)
 ·exact⟨0,0,qp _,rfl,qp _,by show 0=0*ch;rw [jd],h0,qZ _ _⟩
 ·obtain⟨k,i,hk,rfl,iv,o,u,y⟩:=hrel;have c1:=(y.cell (p:= t) hs).trans cK;have c2:=(y.cell (p:= g) E).trans m';by_cases f:k<q
  ·have p':i+ch<=N:=by
    rw [o.out,B.out,<-ql];exact zk _ f
   have N':=j' i N;obtain⟨s,j⟩:=zn (i+ch);have u':(i:V)+(ch:V)=(s:V):=M;have z':s<=1000000000:=M;have O':=vv s c;have hcut:=K i iv;have P':=H i s j M;have G':min (ch:V) ((N-i:O):V)=(ch:V):=M;generalize uK:N-i=ni at*;have w:Qc A ch (⟨k,f⟩:Fin q).val=Z (A.map (·.add i)) ch ch:=by unfold Qc;rw [o.out]
   rw [show A.map (·.add i)=A.map (·.add i) from rfl] at w;generalize A.map (·.add i)=Ai at*;replace j:=T j;gi_wp2;refine wpIn_region_quiet_lit ln AL AL ?_;repeat (gi_big_quiet_step (fail))
   refine wpQuietIn_nil ?_;intro _ cL;obtain⟨nq,P⟩:=cL;subst P;obtain⟨fn,tmps,M',N9,hy,cB⟩:=Q _ ⟨k,f⟩ (wr.drewN nq) (qj _ _ _ u) (by rw [qh,ye];omega);rw [w] at hy;clear w hcut;gi_wp2;refine cB.mono ?_;rintro e W3 (⟨rfl,X,b⟩|⟨rfl,cY⟩)
   ·have c3:=(b.cell (p:= g) E).trans c2;gi_wp2;refine xk ?_;exact⟨k+1,s,M,rfl,M,by show s=(k+1)*ch;rw [ql,<-o.out];exact j,by rw [Vv q k f];exact X,y.trans ⟨b.os,b.tape,b.output,b.size,b.block⟩⟩
   ·gi_wp2;refine qW (results_none rfl _ _ _) rfl ?_;exact⟨⟨_,rfl⟩, .inr ⟨_,⟨k+1,M,(Vv q k f).symm⟩,cY⟩⟩
  ·obtain rfl:k=q:=M;have J':(N:V)<=(i:V):=by have:=o.out;have:=B.out;omega
   rw [qH s8] at u;gi_wp2;go_end0;exact⟨⟨_,rfl⟩, .inl ⟨_,rfl,u⟩⟩
theorem eV (F:Fence) (n:O) (B:F.fn 99) (u:F.round=none) (C:1<=n) (b a d:O) (A:q') (N c ch q:O) (j:N=q*ch) (h1:1<=ch) (D:N<=c) (t:N<=1000000000) (w:I)
  (H:i' w b=J (Z A N c)) (ln:i' w a=J (ch:la)) (f:b<d) (o:a<d) (ih:d<=(w:O)):
  SeqStopsK F n prog 99 #[mJ b,mJ a] (λx:Fin q=> #[Qc A ch x.val]) (r' d) (λv=>v=List.finRange q) (λi=> ∃k,k<=q/\i=(List.finRange q).take k) q w:=λl K E W h y _ z h0=>
 SU F n B u C l b a d A N c _ q j h1 D t K E (λs g m f=>y s g _ none f ⟨rfl,rfl,rfl,qx _,λ_ _ _=>rfl⟩ (λr e=>by cases e)) z W ((h.cell (p:= b) (by show b<_;omega)).trans H) ((h.cell (p:= a) (by show a<_;omega)).trans ln) f o h0
theorem _p (F:Fence) (n:O) (cB:F.fn 98) (u:F.fn 99) (s:F.round=none) (hn:3<=n) (d b:O) (A:q') (N c ch q:O) (ih:N=q*ch) (h1:1<=ch) (t:N<=c) (L:N<=1000000000) (hq:q<=100000) (w:I)
  (ck:i' w d=J (Z A N c)) (X:i' w b=J (ch:la)) (o:d<(w:O)) (y:b<(w:O)):
  CallsIn F n prog 98 #[z8, .func (.func 99) #[] #[mJ d,mJ b]] w λe z=> ∃v,e=t' v/\xp z w 30 1 v q ((List.finRange q).map λx=>Qc A ch x.val)/\r' w w z:=by
 have qj:1<=n:=M;obtain⟨P,hi,cK,H,cY⟩:=qA Zz;have R:=Boxed.new w 87 z8;have r:r' w w (w (Y #[z8] 87)):=(qZ _ w).alloc (qx _) _;have c1:=(r.cell (p:= d) o).trans ck;have c2:=(r.cell (p:= b) y).trans X;have hh:=eV F (n-1) u s M d b w A N c _ q ih h1 t L _ c1 c2 o y r.size;refine callsIn_of_wp_marks func98 rfl cB ?_ s;simp only [ntmps98,xd,qf,zF,Nat.reduceAdd,Nat.reduceSub,ya,yA,QI,yI,xY,Qy];gi_wp2;refine wpIn_rangeFunc_ownG s qj (gf:=99) (lb:= #[mJ d,mJ b]) rfl u (enters_of func99 AL rfl)
  hh belowK_t (belowK_b s8) (qZ _ _) (λ_=>rfl)
  (λ(a:S (Fin q)) W=>(∃v,Boxed W w 87 v/\xp W w 30 1 v (U a) (a.map λx=>Qc A ch x.val)/\True)/\r' w w W)
  (λ_ _ _=>False)
  (OwnFrom.and (Own.from (holdsRow_own w w _ _ 1 _ _ _) _) (ownFrom_below (qx _) s8))
  (λ_ _ _ _ _ o _ _=>o)
  ⟨⟨_,R,qP _ _ _ _,trivial⟩,r⟩
  (λx=>{tmps:= #[z8, .func (.func 99) #[] #[mJ d,mJ b],mJ w,undef,z8,Qc A ch x.val, .func (.func 99) #[] #[mJ d,mJ b],Qc A ch x.val,undef,undef,undef,undef,undef],defers:=[]}) ?assign ?body ?done ?stop
 case assign=>
  intro l x W K g;gi_wp2;exact g
 case body=>
  rintro l a x W ⟨⟨v,j,f,-⟩,i⟩ p';have t:=j.cell;obtain⟨m,B⟩: ∃m,A.map (·.add (x.val*ch))=m:=⟨_,rfl⟩;have k:Qc A ch x.val=Z m ch ch:=by unfold Qc;rw [B]
  simp only [k];replace k:=T k;clear B;gi_wp2_with (gi_at_builtin;refine wpListIn_append_own _ rfl _ _ 87 rfl w 30 P z8 1 24 jr hi cK H cY rfl FV _ _ _ rfl (f.alloc _) (W:O) 1 1 [Z m ch ch] rfl rfl (cell_one_new _ _ _) (by simp [Value.oneCell']) SJ M (by have:=i.size;simp;omega) ?_;intro v' w1 C Q _;obtain⟨g',u',rfl⟩:=ownsRow_succ C;obtain⟨E,cL,d',iv,ln⟩:=j.appended FV f i.size (qx _) C Q;have iL:=E.cell;have m':=E.frozen);exact⟨iv.from _,ln,⟨_,cL,by simpa [k.out] using d',trivial⟩,i.trans ln⟩
 case done=>
  rintro D ys W uK rfl ⟨⟨v,j,f,-⟩,i⟩ g;have t:=j.cell;gi_wp2;refine⟨s8, .inl ⟨_,_,rfl,run_takeDeferred g, ?_⟩⟩;refine⟨_,results_tmp rfl _ _ _,v,rfl, ?_,i.trans (belowK_b (qx _) W D _ _ (by simp at uK;omega) g rfl rfl)⟩;rw [ye] at f;exact ownsRow_putObj f _ g rfl
 case stop=>
  rintro D c a W _ _ h _;exact h.elim
def dY (a b:O):Value:= .func (.func 99) #[] #[mJ a,mJ b]
theorem bH (A:q') (N c ch:O) (w:I) (h1:1<=ch):
  xG 68 #[Z A N c,ch] w λe w'=>e=t' (dY w ((w:O)+1))/\(w (Y #[Z A N c] 30)) (Y #[ch] 3)=w':=by
 unfold dY;have a: ¬((ch:V)<1):=M;go_wp2;go_ret;exact⟨rfl,rfl⟩
theorem eY (a b:O) (A:q') (N c ch q:O) (g:N=q*ch) (h1:1<=ch) (i:N<=c) (n:N<=1000000000) (j:q<=100000) (w:I)
  (f:i' w a=J (Z A N c)) (d:i' w b=J (ch:la)) (k:a<(w:O)) (l:b<(w:O)):
  xG 67 #[dY a b] w λe w'=> ∃v,e=t' v/\xp w' w 30 1 v q ((List.finRange q).map λx=>Qc A ch x.val)/\r' w w w':=by
 have K:=T (Qz.1 (_p _ 5 trivial trivial rfl M a b A N c _ q g h1 i n j w f d k l));unfold dY;clear g f d;go_in;go_wp2_with fail;refine K.mono ?_;rintro e w' ⟨v,rfl,h,m⟩;go_wp2;go_ret;exact⟨v,rfl,h,m⟩
end
end
section
section
open Go.RowKit
theorem L7.elem {w W:I} {R C:O} {f:O->O->AB} {t A:q'} {d:S qn} (h:L7 w W R C L f t A d) {j n:O} (s:j<C) (m:n<L):
  ∃c a g b,A=some c/\i' W (c.add j)=J (Z (some a) L g)/\i' W (a.add n)=J (gR (UInt8.toNat b:V))/\s6 d j n=b:=by
 obtain⟨c,bs,v,g,p,o,u,l,i⟩:=h.row j s;obtain⟨a,b,q,_,r,k⟩:=i.byte m;subst q;refine⟨c,a,g,b,p,l,k, ?_⟩;have e:d.getD j []=bs:=by rw [qd,o];rfl
 unfold s6;rw [e,qd,r];rfl
end
end
section
section
open Go.RowKit
def Y3 (C:O) (g:O->O×O) (i:O):Value:=Z (some ⟨(g i).1,0,none⟩) C (g i).2
structure RM (W:I) (base:O) (A:q') (n c C:O) (g:O->O×O) (F:O->O->AB):Prop where
 out:xp W base 30 1 (Z A n c) n ((List.range n).map (Y3 C g))
 row: ∀i,i<n->xp W base 5 1 (Z (some ⟨(g i).1,0,none⟩) C (g i).2) C ((Xu C (F i)).map B8)
 inj: ∀i j,i<n->j<n->(g i).1=(g j).1->i=j
 bs:base<=(W:O)
end
end
section
variable {b:AB}
section
open Go.RowKit
section
def mkE (bs:qn):Int:=if U bs<=4 then 1 else if bs.take 4≠[70,73,82,75] then 3 else if 1<=(bs.getD 4 0).toNat/\(bs.getD 4 0).toNat<=3 then 0 else 4
def mkV (bs:qn):Int:=if U bs<=4 then 0 else if bs.take 4≠[70,73,82,75] then 0 else if 1<=(bs.getD 4 0).toNat/\(bs.getD 4 0).toNat<=3 then((bs.getD 4 0).toNat:V) else 0
end
theorem Ty:(prog.info? 5).map (λi=>(i.zero,i.size,i.bytes))=J (some (gR 0),1,1):=AL
theorem XE (A:q') (n c:O) (w:I) (b:n<=4):
  xG 73 #[Z A n c] w λe w'=>e=t' (BA #[(),e' 1])/\w=w':=by
 have a:(n:V)<=4:=M;go_wp2;go_ret2;exact⟨rfl,rfl⟩
theorem Zb (A:q') (n c:O) (w:I) (b:n<=4):
  xG 40 #[Z A n c] w λe w'=>e=t' (BA #[(),e' 1])/\w=w':=by
 have a:(n:V)<5:=M;go_enter Jv,Zg;go_wp2;go_ret2;exact⟨rfl,rfl⟩
theorem pj {w:I} {B n:O} {A:q'} {bs:qn} (h:E' w B 1 A n (bs.map B8)) (b:0<n): ∃a,A=some a/\ ∀(j:O) (x:AB),bs[j]? =some x->i' w (a.add j)=J (gR (x.toNat:V)):=by
 obtain⟨a,d,_,c⟩:=h.2 b;exact⟨a,d,λj x e=>c j _ (by rw [qD,e];rfl)⟩
theorem WR (b0 d b c a:AB) (rest:qn):
  ([b0,d,b,c]≠[70,73,82,75]->mkV (b0::d::b::c::a::rest)=0/\mkE (b0::d::b::c::a::rest)=3)/\
  ([b0,d,b,c]=[70,73,82,75]->((1<=a.toNat/\a.toNat<=3)->mkV (b0::d::b::c::a::rest)=(a.toNat:V)/\mkE (b0::d::b::c::a::rest)=0)/\
   (¬(1<=a.toNat/\a.toNat<=3)->mkV (b0::d::b::c::a::rest)=0/\mkE (b0::d::b::c::a::rest)=4)):=by
 have j:(b0::d::b::c::a::rest).take 4=[b0,d,b,c]:=rfl;have i:(b0::d::b::c::a::rest).getD 4 0=a:=rfl;have g: ¬U (b0::d::b::c::a::rest)<=4:=by simp only [qf];omega
 unfold mkV mkE;rw [qJ g,qJ g,j,i];refine⟨λh=>⟨qk h,qk h⟩,λh=> ?_⟩;have f: ¬([b0,d,b,c]≠([70,73,82,75]:qn)):=λh2=>h2 h;rw [qJ f,qJ f];exact⟨λe=>⟨qk e,qk e⟩,λe=>⟨qJ e,qJ e⟩⟩
theorem Wt {b0 a c:AB} (h:[b0,a,b,c]≠[70,73,82,75]):b0≠70\/(b0=70/\a≠73)\/(b0=70/\a=73/\b≠82)\/(b0=70/\a=73/\b=82/\c≠75):=by
 by_cases h0:b0=70
 ·by_cases h1:a=73
  ·by_cases h2:b=82
   ·by_cases h3:c=75
    ·subst h0;subst h1;subst h2;subst h3;exact absurd rfl h
    ·exact .inr (.inr (.inr ⟨h0,h1,h2,h3⟩))
   ·exact .inr (.inr (.inl ⟨h0,h1,h2⟩))
  ·exact .inr (.inl ⟨h0,h1⟩)
 ·exact .inl h0
theorem WT {k:AB} (m:O) (a:k.toNat=m) (h:b≠k):((b.toNat:V) !=(m:V))=true:=by
 rw [yo];intro h2;exact h (jG.1 M)
theorem ET (A:q') (n c B:O) (b0 d f b a:AB) (rest:qn) (w:I) (z:n<=c) (y:c<=maxLen) (h:E' w B 1 A n ((b0::d::f::b::a::rest).map B8)):
  xG 73 #[Z A n c] w λe w'=>e=t' (BA #[e' (mkV (b0::d::f::b::a::rest)),e' (mkE (b0::d::f::b::a::rest))])/\w=w':=by
 have r:=h.len;simp only [qf] at r;have u:(4:V)<n:=M;have C:(4:V)<=c:=M;have q:E' w B 1 A 4 ([b0,d,f,b].map B8):=h.takeN M;have D:=Kf (c:=c) _ 9 5 qu xS ju q;obtain⟨m,rfl,o⟩:=pj h M;have s:=o 4 a rfl;rw [show m.add 4=⟨m.block,m.off+4,none⟩ from rfl] at s;have W:=λw=>T (Qp (a.toNat:V) 1 3 w);have x:a.toNat<256:=a.toNat_lt;have t:=WR b0 d f b a rest;generalize mkV (b0::d::f::b::a::rest)=k,mkE (b0::d::f::b::a::rest)=E at*;obtain⟨l,j⟩:=t;clear o q h r;by_cases g:[b0,d,f,b]=([70,73,82,75]:qn)
 ·obtain⟨k3,p⟩:=j g;simp only [List.cons.injEq,and_true] at g;obtain⟨rfl,rfl,rfl,rfl⟩:=g;clear l j;by_cases i:1<=a.toNat/\a.toNat<=3
  focus
   obtain⟨rfl,rfl⟩:=k3 i;rw [show Fk (a.toNat:V) 1 3=true by unfold Fk;simp;omega] at W;clear p i
  rotate_left
  focus
   obtain⟨rfl,rfl⟩:=p i;rw [show Fk (a.toNat:V) 1 3=false by unfold Fk;simp;omega] at W;clear k3 i
  all_goals
   go_in;go_wp2_with fail;refine(W _).out.mono ?_;rintro e w' ⟨rfl,rfl⟩;go_wp2_with fail;go_ret2;exact⟨rfl,rfl⟩
 ·obtain⟨rfl,rfl⟩:=l g;have v:(!b0==70||(!d==73||(!f==82|| !b==75)))=true:=by
   rcases Wt g with h|⟨_,h⟩|⟨_,_,h⟩|⟨_,_,_,h⟩<;>simp [h]
  clear l j g;go_in;go_wp2_with fail;go_ret2;exact⟨rfl,rfl⟩
theorem gP (A:q') (n c B:O) (b0 f i d a:AB) (rest:qn) (w:I) (h:E' w B 1 A n ((b0::f::i::d::a::rest).map B8)):
  xG 40 #[Z A n c] w λe w'=>e=t' (BA #[e' (mkV (b0::f::i::d::a::rest)),e' (mkE (b0::f::i::d::a::rest))])/\w=w':=by
 have q:=h.len;simp only [qf] at q;have x:(5:V)<=n:=M;have D:(1:V)<n:=M;have H:(2:V)<n:=M;have z:(3:V)<n:=M;have C:(4:V)<n:=M;obtain⟨b,rfl,j⟩:=pj h M;have c0:=j 0 _ rfl;have c1:=j 1 f rfl;have c2:=j 2 i rfl;have s:=j 3 d rfl;have r:=j 4 a rfl;rw [show b.add 0=b from rfl] at c0;rw [show b.add 1=⟨b.block,b.off+1,none⟩ from rfl] at c1;rw [show b.add 2=⟨b.block,b.off+2,none⟩ from rfl] at c2;rw [show b.add 3=⟨b.block,b.off+3,none⟩ from rfl] at s;rw [show b.add 4=⟨b.block,b.off+4,none⟩ from rfl] at r;have y:a.toNat<256:=a.toNat_lt;have u:=WR b0 f i d a rest;generalize mkV (b0::f::i::d::a::rest)=F,mkE (b0::f::i::d::a::rest)=E at*;obtain⟨l,k⟩:=u;clear j h q;by_cases g:[b0,f,i,d]=([70,73,82,75]:qn)
 ·obtain⟨k3,o⟩:=k g;simp only [List.cons.injEq,and_true] at g;obtain⟨rfl,rfl,rfl,rfl⟩:=g;clear l k;by_cases m:1<=a.toNat/\a.toNat<=3
  ·obtain⟨rfl,rfl⟩:=k3 m;have t:(1:V)<=(a.toNat:V):=M;have v:(a.toNat:V)<=3:=M;clear o m k3;go_enter Jv,Zg;go_wp2;go_ret2;exact⟨rfl,rfl⟩
  ·obtain⟨rfl,rfl⟩:=o m;by_cases t:(a.toNat:V)<1
   ·clear o m k3;go_enter Jv,Zg;go_wp2;go_ret2;exact⟨rfl,rfl⟩
   ·have v:(3:V)<(a.toNat:V):=M;clear o m k3;go_enter Jv,Zg;go_wp2;go_ret2;exact⟨rfl,rfl⟩
 ·obtain⟨rfl,rfl⟩:=l g;rcases Wt g with h|⟨rfl,h⟩|⟨rfl,rfl,h⟩|⟨rfl,rfl,rfl,h⟩
  ·have p:((b0.toNat:V) !=70)=true:=WT _ rfl h;clear l k g h;go_enter Jv,Zg;go_wp2;go_ret2;exact⟨rfl,rfl⟩
  ·have p:((f.toNat:V) !=73)=true:=WT _ rfl h;clear l k g h;go_enter Jv,Zg;go_wp2;go_ret2;exact⟨rfl,rfl⟩
  ·have p:((i.toNat:V) !=82)=true:=WT _ rfl h;clear l k g h;go_enter Jv,Zg;go_wp2;go_ret2;exact⟨rfl,rfl⟩
  ·have p:((d.toNat:V) !=75)=true:=WT _ rfl h;clear l k g h;go_enter Jv,Zg;go_wp2;go_ret2;exact⟨rfl,rfl⟩
theorem kt (A:q') (n c B:O) (bs:qn) (w:I) (b:n<=c) (g:c<=maxLen) (h:E' w B 1 A n (bs.map B8)):
  xG 73 #[Z A n c] w λe w'=>e=t' (BA #[e' (mkV bs),e' (mkE bs)])/\w=w':=by
 have a:=h.len
 match bs,h,a with
 |b0::i::d::f::j::rest,h,_=>exact ET A n c B _ i d f j _ w b g h
 |[],_,a=>exact XE A n c w (by simp at a;omega)
 |[_],_,a=>exact XE A n c w (by simp at a;omega)
 |[_,_],_,a=>exact XE A n c w (by simp at a;omega)
 |[_,_,_],_,a=>exact XE A n c w (by simp at a;omega)
 |[_,_,_,_],_,a=>exact XE A n c w (by simp at a;omega)
theorem P9 (A:q') (n c B:O) (bs:qn) (w:I) (h:E' w B 1 A n (bs.map B8)):
  xG 40 #[Z A n c] w λe w'=>e=t' (BA #[e' (mkV bs),e' (mkE bs)])/\w=w':=by
 have a:=h.len
 match bs,h,a with
 |b0::f::b::d::g::rest,h,_=>exact gP A n c B _ f b d g _ w h
 |[],_,a=>exact Zb A n c w (by simp at a;omega)
 |[_],_,a=>exact Zb A n c w (by simp at a;omega)
 |[_,_],_,a=>exact Zb A n c w (by simp at a;omega)
 |[_,_,_],_,a=>exact Zb A n c w (by simp at a;omega)
 |[_,_,_,_],_,a=>exact Zb A n c w (by simp at a;omega)
end
end
section
section
open Go.RowKit
theorem Sr (n:O) (w:I) (k:n<=1000000000):xG 85 #[z8,n] w λe w'=> ∃A c,e=t' (Z A 0 c)/\xp w' w 5 1 (Z A 0 c) 0 []/\r' w w w':=by
 obtain⟨j,hi,f,h,g⟩:=qA xR;by_cases h0:n=0
 ·subst h0;go_wp2;go_ret;exact⟨_,0,rfl,qP _ _ _ 1,qZ _ _⟩
 ·have l:=yn n;have o:=grownCap_ge w n 0 5;have a:=grownCap_le_maxLen w n 0 5 SJ;have i: ∀d,(Builtin.append_ #[30,3] d #[z8,n]).run prog w=
   .ok (Z w n (grownCap w n 0 5)) (w.drew (Y (Builtin.zeroCells (Value.int .u8 0).cells n++Builtin.zeroCells (Value.int .u8 0).cells (grownCap w n 0 5-n)) 5)):=λd=>Lib.run_append_nil_zeros w _ _ d _ j _ _ _ qu yu hi f n M M M (by rw [g];omega)
  generalize grownCap w n 0 5=m at*;have b:(Builtin.zeroCells (Value.int .u8 0).cells n++Builtin.zeroCells (Value.int .u8 0).cells (m-n)).size=m*1:=by rw [Array.size_append,XC _ _ rfl,XC _ _ rfl];omega
  generalize Builtin.zeroCells (Value.int .u8 0).cells n++Builtin.zeroCells (Value.int .u8 0).cells (m-n)=C at*;replace b:=T b;replace a:=T a;go_in;go_wp2_with (at_builtin;refine Lib.wpList_append_run _ rfl _ _ _ _ rfl _ _ rfl rfl _ _ (i _) ?_)
  all_goals
   go_ret;exact⟨_,_,rfl,World.ownsRow_made w.drew C m (qx _) a b,(qZ _ _).drew.alloc (qx _) _⟩
theorem Dq (A:q') (m c:O) (a:S (S la)) (w:I) (hm:m<=100000) (ht:La a<=1000000000) (h:UX w (w:O) A m a):
  xG 53 #[Z A m c] w λe w'=> ∃cL N,e=t' (Z cL (La a) N)/\xp w' (w:O) 5 1 (Z cL (La a) N) (La a) a.flatten/\r' (w:O) w w':=by
 have H:=T (λW (hW:r' (w:O) w W)=>h.below hW);obtain⟨i0,hi,ih,v,K⟩:=xt xR;have hh:=T (λj=>FK a j);have D:G (∀j,m<=j->a.take j=a):=λj hj=>qH (by rw [h.len];exact hj);have P:=T (λn W hn=>Sr n W hn);clear h;obtain⟨qj,p⟩: ∃qj,La a=qj:=⟨_,rfl⟩;rw [p] at hh ht⊢;replace p:=T p;go_wp2;go_loop [11,3] (λB v3=> ∃j s:O,B=(j:la)/\v3=(s:la)/\j<=m/\s<=1000000000/\G (s=La (a.take j))) (λB _=>m-(intOf B).toNat)
 ·exact⟨0,0,rfl,rfl,M,M,by show 0=La (a.take 0);simp [La]⟩
 ·obtain⟨j,s,rfl,rfl,D',hs,HS⟩:=hrel;by_cases z:j<m
  ·have z':=j' j m;obtain⟨ad,cY,d,cK,vs,ln,g,hc,f,-⟩:=(H w (qZ _ _)).at_ j z;subst ln;have o:G (s+d=La (a.take (j+1))):=by unfold Hid;rw [K9 g,<-HS.out];have:=f.1;omega
   have L:=hh (j+1);rw [<-o.out] at L;clear g f;have G':(s:V)+(d:V)=((s+d:O):V):=M;generalize s+d=ck at*;go_wp2;go_round
   case rel=>exact⟨j+1,ck,xh,rfl,M,M,o⟩
   case measure=>simp [intOf];omega
  ·have r:G (s=qj):=by unfold Hid;rw [HS.out,D.out j M];exact p.out
   have u:=r.out;subst u;clear HS;go_wp2_with fail;refine(P _ _ hs).mono ?_;rintro e w1 ⟨Q,c1,rfl,uK,q⟩;have iv:G (xp w1 (w:O) 5 1 (Z Q 0 c1) 0 (a.take 0).flatten):=by unfold Hid;rw [vG];exact uK
   replace q:=T q;clear uK;go_wp2;go_loopw [27,6] (λy v6 wr=> ∃(j b l:O) (i:q'),y=(j:la)/\v6=Z i b l/\j<=m/\b<=1000000000/\G (b=La (a.take j))/\G (r' (w:O) w wr)/\G (xp wr (w:O) 5 1 (Z i b l) b (a.take j).flatten)) (λy _ _=>m-(intOf y).toNat)
   ·exact⟨0,0,c1,Q,rfl,rfl,M,M,by show 0=La (a.take 0);simp [La],q,iv⟩
   ·obtain⟨j,b,l,i,rfl,rfl,D',I',HS,k,t⟩:=hrel;by_cases z:j<m
    ·have z':=j' j m;obtain⟨ad,cY,d,cK,vs,ln,g,hc,f,F⟩:=(H _ k).at_ j z;subst ln;have o:G (b+d=La (a.take (j+1))):=by unfold Hid;rw [K9 g,<-HS.out];have:=f.1;omega
     have L:=hh (j+1);rw [<-o.out] at L;have u':=T (dX g);have p':b+d<=maxLen:=SJ;have m':(b+d)*1<=140737488355328:=M;replace f:=T f;replace F:=T F;clear g;go_wp2_with (at_builtin;refine qF _ rfl (.tmp 31) (.tmp 32) 30 rfl (w:O) 5 i0 (Value.int .u8 0) 1 1 qu hi ih v K rfl M i b l _ rfl t (wr:O) cY d cK _ rfl f F p' m' k.size ?_;intro A3 cB X C R d';have E:=zG k R t k.size;replace C:=T C;replace E:=T E;clear R d');refine xk ?_;exact⟨j+1,b+d,cB,A3,xh,rfl,M,M,o,E,by rw [u'.out];exact C⟩
    ·have r:G (b=s):=by unfold Hid;rw [HS.out,D.out j M];exact p.out
     have u:=r.out;subst u;have x:=D j M;rw [x] at t;go_wp2;go_ret;exact⟨i,l,rfl,t,k⟩
end
end
section
section
open Go.RowKit
theorem uU (A:q') (m c:O) (a:S (S la)) (w:I) (g:m<=100000) (ht:La a<=1000000000) (h:UX w w A m a):
  xG 30 #[Z A m c] w λe w'=> ∃i f,e=t' (Z i (La a) f)/\xp w' w 5 1 (Z i (La a) f) (La a) a.flatten/\r' w w w':=by
 have j:=T (Dq A m c a w g ht h);generalize La a=o,a.flatten=l at*;clear h g ht;go_in;go_wp2_with fail;refine j.mono ?_;rintro e n ⟨k,c1,rfl,b,d⟩;replace b:=T b;replace d:=T d;go_wp2;go_ret;exact⟨k,_,rfl,b,d⟩
end
end
section
section
open Go.RowKit
def _l (n:O):qn:=[70,73,82,75,UInt8.ofNat n]
theorem MF {w:I} {base base':O} {e:TypeId} {size:O} {v:la} {n:O} {a:S la} (h:xp w base e size v n a) (d:base'<=base):xp w base' e size v n a:=
 ⟨h.1,h.2.imp id λ⟨g,cap,cur,b,c,r⟩=>⟨g,_,_,b,qv d c,r⟩⟩
theorem nU (w:I) (t:TypeId) (c a:S la) (d:O×O):
  (∀j u,c[j]? =some u->i' ((w (Y c.toArray t d)) (Y a.toArray t)) (((w:O):Addr).add j)=some u)/\
  (∀j u,a[j]? =some u->i' ((w (Y c.toArray t d)) (Y a.toArray t)) ((↑((w:O)+1):Addr).add j)=some u):=by
 have e: ∀(b j:O),(⟨b,0,none⟩:Addr).add j=⟨b,j,none⟩:=λb j=>by unfold Addr.add;split<;>simp_all
 refine⟨λj u f=> ?_,λj u f=> ?_⟩
 ·rw [e,cell_of_row _ _ _ c.toArray t d ((heap_alloc_old (w (Y c.toArray t d)) (Y a.toArray t) s8).trans (heap_alloc_new w _))];simpa using f
 ·rw [e,cell_of_row _ _ _ a.toArray t (0,0) (by have h:=heap_alloc_new (w (Y c.toArray t d)) (Y a.toArray t);simpa using h)];simpa using f
theorem CT (n:O) (w:I) (h1:1<=n) (h3:n<=3):
  xG 29 #[n] w λe w'=> ∃A c,e=t' (BA #[Z A 5 c,()])/\xp w' (w:O) 5 1 (Z A 5 c) 5 ((_l n).map B8)/\r' (w:O) w w':=by
 have H:=Qp n 1 3;rw [show Fk (n:V) 1 3=true by unfold Fk;simp;omega] at H;replace H:=λw=>T (H w);have kc:=λ(w:I) (C:Array la) (n c:O)=>Lib.run_convert_bytes_const w _ 5 C n c qu xS;obtain⟨s,hi,d,a,g⟩:=xt Ty;have K:=T (nU w 5 [gR 70,gR 73,gR 82,gR 75] [gR (n:V)] (4,5));have i:r' (w:O) w ((w (Y [gR 70,gR 73,gR 82,gR 75].toArray 5 (4,5))) (Y [gR (n:V)].toArray 5)):=(j1 _).alloc s8 _;replace i:=T i;have t:(n:V)%256=n:=M;go_in;go_wp2_with fail;refine zC (H _).out ?_;intro w' f;replace f:=f.symm;subst f;go_wp2_with (at_builtin;refine wpList_append_grows _ rfl (.tmp 8) (.tmp 11) 30 rfl 5 s (gR 0) 1 1 qu hi d a g rfl M (w:O) 4 4 [gR 70,gR 73,gR 82,gR 75] rfl (λh=>by cases h) rfl (λb m=>by cases m;exact K.out.1) ↑((w:O)+1) 1 1 [gR (n:V)] rfl rfl K.out.2 (IB rfl) M SJ M ?_;intro v u j r;obtain⟨p,c1,rfl⟩:=X_ j);go_ret2;refine⟨p,c1,rfl, ?_, ?_⟩
 ·have q:(_l n).map B8=[gR 70,gR 73,gR 82,gR 75]++[gR (n:V)]:=by
   have l:n=1\/n=2\/n=3:=M;rcases l with rfl|rfl|rfl<;>rfl
  rw [q];exact MF j SZ
 ·exact i.grown r SZ (λk o=>by cases o)
end
end
end Go.Proofs.YtfnlfpcfkbdcmaaGreatDoor
