import Derived.Test.YtfnlfpcfkbdcmaaGreatDoorT24
set_option linter.unusedSimpArgs false
set_option linter.unusedVariables false
set_option maxRecDepth 100000
set_option maxHeartbeats 0
open Go.Proofs.Tryz
namespace Go.Proofs.YtfnlfpcfkbdcmaaGreatDoor
open Go.RowKit
def Mn (W:I) (g:O) (r:V×Dir) (e:Ending) (a:I):Prop:=
 e=t' (e' r.1)/\(∃f b c0 d c c1,b=U r.2.counts/\c=U r.2.sizes/\JN a W g f b c0 r.2.counts d c c1 r.2.sizes r.2.cols r.2.index)/\qE [g] W a
theorem kO (b:qn) (r f:O) (c:Cu) (x y:S O):Q7 b r (f+1) c x y=if c.err≠0 then(x,y,c) else Q7 b r f (jU b 8388608 (jU b r c).2).2 (x++[(jU b r c).1]) (y++[(jU b 8388608 (jU b r c).2).1]):=rfl
theorem US {x:S O} {v uK:O} (h: ∀a∈x,a<=uK) (b:v<=uK): ∀a∈x++[v],a<=uK:=by
 intro a c;rcases zt.1 c with h1|h1
 ·exact h a h1
 ·rw [qy.1 h1];exact b
def E9 (x y:S O) (k i r a:O):Int:=if 0∈x\/x.sum≠r\/y.sum+k+i≠a then 2 else 0
theorem E__ (g ih:O) (q:Option Addr) (N w B:O) (b:S AB) (W:I) (hk:F' W g 174 (bdC (Z none 0 0) (Z none 0 0) 0 0)) (hr:E' W B 1 q N (b.map B8)) (hB:B<=(W:O)) (hN:N<=1000000000) (hrm:ih<=1000000000000):
  xG 159 #[mJ g,Z q N w,ih] W (Mn W g (tb b ih)):=by
 obtain⟨i0,hi,hz0,hz1,hz2⟩:=qA XM;replace hi:=T hi;replace hz0:=T hz0;replace hz1:=T hz1;replace hz2:=T hz2;have KN:=T (Qk q N w B b W hr hB hN);have KI:=T (λl cB A cap c m (h:Lr l cB A N cap b c) (hm:m<=9223372036854775807)=>yK l cB A N cap b c m h hm);unfold jS at KI;obtain⟨R,hR⟩: ∃R,R=tb b ih:=⟨_,rfl⟩;rw [<-hR];unfold tb at hR;dsimp only at hR;have hm1:=vX b 20000 ⟨0,0⟩ M;generalize hx1:jU b 20000 ⟨0,0⟩=x1 at*
 obtain⟨u,cu1⟩:=x1;dsimp only at hR hm1;have d':=vX b (u:V) cu1 M;generalize hx2:jU b (u:V) cu1=x2 at*
 obtain⟨bl,cu2⟩:=x2;dsimp only at hR d';have hrs:u<=20000:=M;have hbl:bl<=20000:=M;obtain⟨P,hP⟩: ∃P,P=Q7 b u bl cu2 [] []:=⟨_,rfl⟩;rw [<-hP] at hR;replace hP:G (Q7 b u bl cu2 [] []=P):=hP.symm;have HJ0:G (JN W W g none 0 0 [] none 0 0 [] 0 0):=⟨hk,qP _ _ _ _,qP _ _ _ _,by simp [K'],qx _⟩
 have HG:=T hk.lt;replace hR:=T hR;replace hx1:=T hx1;replace hx2:=T hx2;clear hk hr hm1 d';go_enter func159,ntmps159
 go_wp2_with fail;refine KN.mono ?_;rintro e w1 ⟨cB,A,cap,rfl,hc,hgc,hfA,hB1⟩;have HC1:=T hc;have HJ1:=T (HJ0.fresh hB1);have HM1:G (qE [g] W w1):=qE.jq hB1;have HGC:=T hgc;have HFA:=T hfA;have KI1:=KI.out w1 cB A cap _ 20000 hc M
 rw [hx1.out] at KI1;replace KI1:=T KI1;have p':G (∀{cY V':I},qE [g] W cY->qE [cB] cY V'->qE [g] W V'):=λh h'=>h.trans h' (λk hk=> .inr (by rw [qy.1 hk];exact HGC))
 clear KN hc hgc hfA hB1 HJ0
 go_wp2_with fail;refine KI1.mono ?_;rintro e w2 ⟨rfl,N9,d'⟩;have HC2:=T N9;have u':=T (HJ1.cur HC1 d');have S':=T (p'.out HM1 d');have KI2:=KI.out w2 cB A cap _ (u:V) N9 M
 rw [hx2.out] at KI2;replace KI2:=T KI2;clear KI1 N9 d' HC1 HJ1 HM1
 go_wp2_with fail;refine KI2.mono ?_;rintro e w3 ⟨rfl,hc3,hm3⟩;have U':=T hc3;have OX:=T (u'.cur HC2 hm3);have P':=T (p'.out S' hm3);clear KI2 hc3 hm3 HC2 u' S'
 go_wp2_with fail;go_loopw [10] (λv10 wr=> ∃(j f C w:O) (r q:Option Addr) (H:Cu) (x y:S O),v10=(j:la)/\j+f=bl/\G (U x=j/\U y=j)/\G ((∀a∈x,a<=20000)/\ ∀a∈y,a<=8388608)/\G (Q7 b u f H x y=P)/\G (Lr wr cB A N cap b H)/\G (JN wr W g r j C x q j w y 0 0)/\G (qE [g] W wr)) (λv10 _=>bl-(intOf v10).toNat)
 case atStart=>exact⟨0,bl,0,0,none,none,cu2,[],[],rfl,M,⟨rfl,rfl⟩,⟨s8,s8⟩,hP,U',OX,P'⟩
 case round=>
  clear U' OX P' hP;obtain⟨j,f,C,w,r,q,H,x,y,rfl,hjf,s,HX,HP,HC,HJ,HM⟩:=hrel;by_cases hlt:j<bl
  ·have hlt':(j:V)<(bl:V):=M
   have KE:=jg wr cB A N cap b H HC.out;by_cases Q':H.err=0
   ·obtain⟨f,rfl⟩: ∃f',f=f'+1:=⟨f-1,M⟩
    rw [Q'] at KE;replace KE:=T KE;have HP2:=HP.out;rw [kO,qJ (by simpa using Q')] at HP2
    have ha1:=vX b (u:V) H M;generalize I':jU b (u:V) H=y1 at*
    obtain⟨v1,cv1⟩:=y1;dsimp only at HP2 ha1;have ha2:=vX b 8388608 cv1 M;generalize D':jU b 8388608 cv1=y2 at*
    obtain⟨v2,cv2⟩:=y2;dsimp only at HP2 ha2;have hv1:v1<=20000:=M;have hv2:v2<=8388608:=M;have X:=KI.out wr.drew cB A cap H (u:V) (HC.fresh (qZ _ wr).drew) M;rw [I'] at X;replace X:=T X;replace HP2:=T HP2;replace I':=T I';replace D':=T D';replace Q':=T Q';have c0:=HJ.q0;have hne:=T (HJ.blk.ne_ HC.blk FV);have HMd:G (qE [g] W wr.drew):=HM.drew;have HJd:=T (HJ.fresh (qZ _ wr).drew);have HCd:=T (HC.fresh (qZ _ wr).drew);have hb1:j+1<=maxLen:=SJ;have hb2:(j+1)*8<=140737488355328:=M;clear HP ha1 ha2
    go_wp2_with fail;refine KE.mono ?_;rintro e w' ⟨rfl,rfl⟩;clear KE
    go_wp2_with fail;refine zv 10 (λl=>i' l g=J (Z r j C)) AL c0 (λd=> ?_)
    generalize wr.drew=wd at*
    refine zq [0,1,2] (a':= ?_) ?_;refine zq [3,4,5] (a':= ?_) ?_;refine zq [6] (a':= ?_) ?_;refine vf 7 X ?_;rintro e wa ⟨rfl,hca,M'⟩;refine⟨_,rfl,((M'.cell (p:= g) (by simpa using hne.out) HJd.q0)),λd=> ?_⟩
    have HJa:=HJd.cur HCd M';have HMa:=p'.out HMd M';refine IA 8 rfl AL SQ (λK n=> ?_);go_simp
    (have N':=HJa.fresh ((qZ _ wa).alloc (qx _) (Y #[v1] 3)))
    refine n _ _ (N'.q0) (λd=> ?_);clear n K;try simp only [Act.put,qQ,qY,qV]
    refine QY 9 rfl AL (λK n=> ?_)
    (refine jm _ rfl (.tmp 33) (.tmp 37) 62 rfl W 3 i0 () 1 8 jj hi hz0 hz1 hz2 rfl M r j C _ rfl N'.o0 ((wa:O)+1) wa 1 1 [e' (v1:V)] rfl (zU wa _ _) (IB rfl) hb1 hb2 N'.bs ?_;intro A4 c4 w4 ho4 hg4 hs4;obtain⟨⟨j0,jf⟩,h4,m4,q4⟩:=HJa.lH (v:=v1) hca _ hg4 ho4 hs4 (qx _) HMa)
    refine n _ _ (j0) (λd=> ?_);clear n K;try simp only [Act.put,qQ,qY,qV]
    refine j4 10 rfl AL FV SQ (λK n=> ?_);go_simp;refine n _ _ ?_;clear n K;try simp only [Act.put,qQ,qY,qV]
    refine j4 11 rfl AL FV SQ (λK n=> ?_);go_simp;refine n _ _ ?_;clear n K;try simp only [Act.put,qQ,qY,qV]
    refine j4 12 rfl AL FV SQ (λK n=> ?_);go_simp;refine n _ _ ?_;clear n K;try simp only [Act.put,qQ,qY,qV]
    refine zV AL ?_ _;have iL:=T h4;have O':=T m4;have HC4:=T q4;clear X d c0 HJa HMa hca M' N' j0 jf h4 m4 q4 ho4 hg4 hs4 HC HJ HM HMd HJd HCd;generalize w4.setCell g (Z A4 (j+1) c4)=w5 at*
    have iv:=KI.out w5.drew cB A cap cv1 8388608 (HC4.fresh (qZ _ w5).drew) M;rw [D'.out] at iv;replace iv:=T iv;have c1:=iL.q1;have HMd:G (qE [g] W w5.drew):=O'.drew;have HJd:=T (iL.fresh (qZ _ w5).drew);have HCd:=T (HC4.fresh (qZ _ w5).drew);clear HC4 iL O'
    go_wp2_with fail;refine zv 9 (λl=>i' l ⟨g,1,none⟩=J (Z q j w)) AL c1 (λd=> ?_)
    generalize w5.drew=wd at*
    refine zq [0,1,2] (a':= ?_) ?_;refine zq [3,4,5] (a':= ?_) ?_;refine vf 6 iv ?_;rintro e wa ⟨rfl,hca,M'⟩;refine⟨_,rfl,((M'.cell (p:=⟨g,1,none⟩) (by simpa using hne.out) HJd.q1)),λd=> ?_⟩
    have HJa:=HJd.cur HCd M';have HMa:=p'.out HMd M';refine IA 7 rfl AL SQ (λK n=> ?_);go_simp
    (have N':=HJa.fresh ((qZ _ wa).alloc (qx _) (Y #[v2] 3)))
    refine n _ _ (N'.q1) (λd=> ?_);clear n K;try simp only [Act.put,qQ,qY,qV]
    refine QY 8 rfl AL (λK n=> ?_)
    (refine jm _ rfl (.tmp 45) (.tmp 48) 62 rfl W 3 i0 () 1 8 jj hi hz0 hz1 hz2 rfl M q j w _ rfl N'.o1 ((wa:O)+1) wa 1 1 [e' (v2:V)] rfl (zU wa _ _) (IB rfl) hb1 hb2 N'.bs ?_;intro A6 c6 w6 ho6 hg6 hs6;obtain⟨⟨j0,jf⟩,h6,m6,q6⟩:=HJa.lB (v:=v2) hca _ hg6 ho6 hs6 (qx _) HMa)
    refine n _ _ (j0) (λd=> ?_);clear n K;try simp only [Act.put,qQ,qY,qV]
    refine j4 9 rfl AL FV SQ (λK n=> ?_);go_simp;refine n _ _ ?_;clear n K;try simp only [Act.put,qQ,qY,qV]
    refine j4 10 rfl AL FV SQ (λK n=> ?_);go_simp;refine n _ _ ?_;clear n K;try simp only [Act.put,qQ,qY,qV]
    refine j4 11 rfl AL FV SQ (λK n=> ?_);go_simp;refine n _ _ ?_;clear n K;try simp only [Act.put,qQ,qY,qV]
    refine zV AL ?_ _;have HJ6:=T h6;have HM6:=T m6;have HC6:=T q6;clear iv d c1 HJa HMa hca M' N' j0 jf h6 m6 q6 ho6 hg6 hs6 HMd HJd HCd;generalize w6.setCell ⟨g,1,none⟩ (Z A6 (j+1) c6)=w8 at*
    have HL2:G (U (x++[v1])=j+1/\U (y++[v2])=j+1):=⟨by rw [qK,s.out.1];rfl,by rw [qK,s.out.2];rfl⟩
    have HX2:G ((∀a∈x++[v1],a<=20000)/\ ∀a∈y++[v2],a<=8388608):=⟨US HX.out.1 hv1,US HX.out.2 hv2⟩;have HP3:G (Q7 b u f cv2 (x++[v1]) (y++[v2])=P):=HP2.out;clear HP2 hne
    go_wp2_with fail;go_roundw
    case rel=>exact⟨j+1,f,c4,c6,A4,A6,cv2,x++[v1],y++[v2],by first|rfl|simp,M,HL2,HX2,HP3,HC6,HJ6,HM6⟩
    case measure=>simp [intOf];omega
   ·have hez:(H.err==0)=false:=by simpa using Q'
    generalize hER:H.err=ER0 at*
    replace KE:=T KE;have her2:=T Q';have HPF:G (P=(x,y,H)):=by
     rw [Hid,<-HP.out];cases f with
     |zero=>rfl
     |succ f=>rw [kO,qk (by rw [hER];exact her2.out)]
    have D:=hR.out;rw [HPF.out] at D;dsimp only at D;have hk1:=vX b 8388608 H M;generalize I':jU b 8388608 H=y1 at*
    obtain⟨k,cu3⟩:=y1;dsimp only at D hk1;have hk2:=vX b 8388608 cu3 M;generalize D':jU b 8388608 cu3=y2 at*
    obtain⟨i,cu4⟩:=y2;dsimp only at D hk2;have hkb:k<=8388608:=M;have hib:i<=8388608:=M;clear hk1 hk2 HP HPF;replace D:=T D;replace D':=T D';replace hER:=T hER;replace Q':=T Q'
    go_wp2_with fail;refine KE.mono ?_;rintro e w' ⟨rfl,rfl⟩;clear KE;have X:=KI.out wr cB A cap H 8388608 HC M
    rw [I'] at X;replace X:=T X;replace I':=T I'
    go_wp2_with fail;refine X.mono ?_;rintro e w2 ⟨rfl,N9,d'⟩;have u':=T (HJ.cur HC d');have S':=T (p'.out HM d');have f2:=u'.blk.frozen 2;have g2:=u'.q2;obtain⟨h3,m3,q3⟩:=u'.out.GS N9 k S'.out;have iv:=KI.out _ cB A cap cu3 8388608 q3 M
    rw [D'.out] at iv;replace iv:=T iv;have OX:=T h3;have P':=T m3;have U':=T q3;clear X N9 d' HJ HM HC u' S' h3 m3 q3
    go_wp2_with fail;clear f2 g2;generalize w2.setCell ⟨g,2,none⟩ k=w3 at*
    refine iv.mono ?_;rintro e w4 ⟨rfl,hc4,X'⟩;have iL:=T (OX.cur U' X');have O':=T (p'.out P' X');have f3:=iL.blk.frozen 3;have g3:=iL.q3;obtain⟨h5,m5,q5⟩:=iL.gJ hc4 i O'.out;have KF:=uu _ cB A N cap b cu4 q5;unfold jS at KF;generalize hend:PW b cu4=ce at*
    replace KF:=T KF;have HJ5:=T h5;have HM5:=T m5;have HC5:=T q5;replace hend:=T hend;clear iv hc4 X' OX P' U' iL O' h5 m5 q5
    go_wp2_with fail;clear f3 g3;generalize w4.setCell ⟨g,3,none⟩ i=w5 at*
    refine KF.mono ?_;rintro e o ⟨rfl,hc7,Z'⟩;have z:=T (HJ5.cur HC5 Z');have z':=T (p'.out HM5 Z');clear KF hc7 Z' HJ5 HM5 HC5 KI p';by_cases ln:ce.err=0
    case neg=>
     have F:G (R=(ce.err,⟨x,y,k,i⟩)):=by rw [Hid,D.out,qk ln]
     have hzz:(ce.err==0)=false:=by simpa using ln
     have hzn:(ce.err !=0)=true:=by simpa using ln
     clear hR D;generalize ce.err=ER at*
     replace ln:=T ln
     go_wp2_with fail;go_ret;rw [F.out];exact⟨rfl,⟨r,j,C,q,j,w,s.out.1.symm,s.out.2.symm,z.out⟩,z'.out⟩
    have hR3:=D.out;rw [qJ (by simpa using ln)] at hR3
    have cK:i' o.drew g=_:=z.q0;have uK:i' o.drew ⟨g,1,none⟩=_:=z.q1;have hh:i' o.drew ⟨g,2,none⟩=_:=z.q2;have qj:i' o.drew ⟨g,3,none⟩=_:=z.q3;rw [ln];have G':=s.out.1;have N6:=s.out.2;have r0:=E'.zY z.o0;have r1:=E'.zY z.o1;have s0:=VX x x 20000 HX.out.1;have s1:=VX y y 8388608 HX.out.2;rw [jP,G'] at s0;rw [jP,N6] at s1;have ck:=λc=>T (py r c o 0 x o.drew (by rw [G'];exact r0) M)
    have J':=λc=>T (Z8 r c o x o.drew (by rw [G'];exact r0) M (λa ha=>qv (HX.out.1 a ha) FV))
    have Y':=λc=>T (Z8 q c o y o.drew (by rw [N6];exact r1) M (λa ha=>qv (HX.out.2 a ha) FV))
    rw [G'] at ck J';rw [N6] at Y';have hct:x.contains 0=decide (0∈x):=s8;rw [hct,show((0:O):V)=0 from rfl] at ck
    have Q:G (R=(E9 x y k i u ih,⟨x,y,k,i⟩)):=by
     rw [Hid,hR3];unfold E9;split<;>rfl
    have L:G (E9 x y k i u ih=if 0∈x\/x.sum≠u\/y.sum+k+i≠ih then 2 else 0):=rfl
    generalize E9 x y k i u ih=DE at*
    generalize hsx:x.sum=sx at*
    generalize hsy:y.sum=E at*
    have hsx2:sx<=400000000:=M;have hsy2:E<=200000000000:=M;replace hsx:=T hsx;replace hsy:=T hsy;replace ln:=T ln;clear hR D hR3 r0 r1 s0 s1 hct G' N6;by_cases t:0∈x
    ·have F:G (R=(2,⟨x,y,k,i⟩)):=by rw [Hid,Q.out,L.out,qk (.inl t)]
     rw [qw t] at ck;replace t:=T t;clear Q L
     go_wp2_with fail;refine zv 33 (λl=>i' l g=J (Z r j C)/\i' l ⟨g,1,none⟩=J (Z q j w)/\i' l ⟨g,2,none⟩=J (k:la)/\i' l ⟨g,3,none⟩=J (i:la)) AL ⟨cK,uK,hh,qj⟩ (λd=> ?_)
     refine zq [0,1,2,3] (a':= ?_) ?_;refine vf 4 (T ((ck _).out)) ?_;rintro e w' ⟨rfl,rfl⟩;refine⟨_,rfl,(d),λd=> ?_⟩;refine zq [5] (a':= ?_) ?_;refine zq [6,7,8] (a':= ?_) ?_;refine zq [9,10,11] (a':= ?_) ?_;refine zq [12] (a':= ?_) ?_;refine zq [13,14] (a':= ?_) ?_;refine zq [15,16,17] (a':= ?_) ?_;refine zq [18,19,20] (a':= ?_) ?_;refine zq [21,22,23] (a':= ?_) ?_;refine zq [24,25,26] (a':= ?_) ?_;refine zq [27,28,29] (a':= ?_) ?_;refine zq [30,31] (a':= ?_) ?_;refine zq [32] (a':= ?_) ?_;refine zV AL ?_ _;clear d cK uK hh qj
     go_wp2_with fail;go_ret;rw [F.out];exact⟨rfl,⟨r,j,C,q,j,w,s.out.1.symm,s.out.2.symm,z.fresh (qZ _ o).drew⟩,z'.drew⟩
    ·rw [qc t] at ck
     by_cases cL:sx=u
     ·have hsr1:((sx:V) !=(u:V))=false:=SZ
      have hp1:DW ((E:V)+(k:V))=((E+k:O):V):=SX;have hp2:DW (((E+k:O):V)+(i:V))=((E+k+i:O):V):=SX;by_cases m':E+k+i=ih
      ·have F:G (R=(0,⟨x,y,k,i⟩)):=by
        rw [Hid,Q.out,L.out,qJ (λh=>h.elim t λh=>h.elim (λh=>h cL) λh=>h m')]
       have hq:(((E+k+i:O):V) !=(ih:V))=false:=SZ;generalize E+k=t1 at*
       generalize t1+i=t2 at*
       replace t:=T t;replace m':=T m';replace cL:=T cL;clear Q L
       go_wp2_with fail;refine zv 33 (λl=>i' l g=J (Z r j C)/\i' l ⟨g,1,none⟩=J (Z q j w)/\i' l ⟨g,2,none⟩=J (k:la)/\i' l ⟨g,3,none⟩=J (i:la)) AL ⟨cK,uK,hh,qj⟩ (λd=> ?_)
       refine zq [0,1,2,3] (a':= ?_) ?_;refine vf 4 (T ((ck _).out)) ?_;rintro e w' ⟨rfl,rfl⟩;refine⟨_,rfl,(d),λd=> ?_⟩;refine zq [5] (a':= ?_) ?_;refine zq [6,7,8] (a':= ?_) ?_;refine zq [9,11] (a':= ?_) ?_;refine vf 10 (T ((J' _).out)) ?_;rintro e w' ⟨rfl,rfl⟩;refine⟨_,rfl,(d),λd=> ?_⟩;refine zq [12,13,14] (a':= ?_) ?_;refine zq [15,16,17] (a':= ?_) ?_;refine zq [18,20,21] (a':= ?_) ?_;refine zq [22,23,25] (a':= ?_) ?_;refine zq [26,27,28] (a':= ?_) ?_;refine zq [30] (a':= ?_) ?_;refine vf 19 (T ((Y' _).out)) ?_;rintro e w' ⟨rfl,rfl⟩;refine⟨_,rfl,(d),λd=> ?_⟩;refine zq [24,29,31,32] (a':= ?_) ?_;refine zV AL ?_ _;clear d cK uK hh qj
       go_wp2_with fail;go_ret;rw [F.out];exact⟨rfl,⟨r,j,C,q,j,w,s.out.1.symm,s.out.2.symm,z.fresh (qZ _ o).drew⟩,z'.drew⟩
      ·have F:G (R=(2,⟨x,y,k,i⟩)):=by rw [Hid,Q.out,L.out,qk (.inr (.inr m'))]
       have hq:(((E+k+i:O):V) !=(ih:V))=true:=SZ;generalize E+k=t1 at*
       generalize t1+i=t2 at*
       replace t:=T t;replace m':=T m';replace cL:=T cL;clear Q L
       go_wp2_with fail;refine zv 33 (λl=>i' l g=J (Z r j C)/\i' l ⟨g,1,none⟩=J (Z q j w)/\i' l ⟨g,2,none⟩=J (k:la)/\i' l ⟨g,3,none⟩=J (i:la)) AL ⟨cK,uK,hh,qj⟩ (λd=> ?_)
       refine zq [0,1,2,3] (a':= ?_) ?_;refine vf 4 (T ((ck _).out)) ?_;rintro e w' ⟨rfl,rfl⟩;refine⟨_,rfl,(d),λd=> ?_⟩;refine zq [5] (a':= ?_) ?_;refine zq [6,7,8] (a':= ?_) ?_;refine zq [9,11] (a':= ?_) ?_;refine vf 10 (T ((J' _).out)) ?_;rintro e w' ⟨rfl,rfl⟩;refine⟨_,rfl,(d),λd=> ?_⟩;refine zq [12,13,14] (a':= ?_) ?_;refine zq [15,16,17] (a':= ?_) ?_;refine zq [18,20,21] (a':= ?_) ?_;refine zq [22,23,25] (a':= ?_) ?_;refine zq [26,27,28] (a':= ?_) ?_;refine zq [30] (a':= ?_) ?_;refine vf 19 (T ((Y' _).out)) ?_;rintro e w' ⟨rfl,rfl⟩;refine⟨_,rfl,(d),λd=> ?_⟩;refine zq [24,29,31,32] (a':= ?_) ?_;refine zV AL ?_ _;clear d cK uK hh qj
       go_wp2_with fail;go_ret;rw [F.out];exact⟨rfl,⟨r,j,C,q,j,w,s.out.1.symm,s.out.2.symm,z.fresh (qZ _ o).drew⟩,z'.drew⟩
     ·have F:G (R=(2,⟨x,y,k,i⟩)):=by rw [Hid,Q.out,L.out,qk (.inr (.inl cL))]
      have hsr1:((sx:V) !=(u:V))=true:=SZ;replace t:=T t;replace cL:=T cL;clear Q L
      go_wp2_with fail;refine zv 33 (λl=>i' l g=J (Z r j C)/\i' l ⟨g,1,none⟩=J (Z q j w)/\i' l ⟨g,2,none⟩=J (k:la)/\i' l ⟨g,3,none⟩=J (i:la)) AL ⟨cK,uK,hh,qj⟩ (λd=> ?_)
      refine zq [0,1,2,3] (a':= ?_) ?_;refine vf 4 (T ((ck _).out)) ?_;rintro e w' ⟨rfl,rfl⟩;refine⟨_,rfl,(d),λd=> ?_⟩;refine zq [5] (a':= ?_) ?_;refine zq [6,7,8] (a':= ?_) ?_;refine zq [9,11] (a':= ?_) ?_;refine vf 10 (T ((J' _).out)) ?_;rintro e w' ⟨rfl,rfl⟩;refine⟨_,rfl,(d),λd=> ?_⟩;refine zq [12,13,14] (a':= ?_) ?_;refine zq [15,16,17] (a':= ?_) ?_;refine zq [18,19,20] (a':= ?_) ?_;refine zq [21,22,23] (a':= ?_) ?_;refine zq [24,25,26] (a':= ?_) ?_;refine zq [27,28,29] (a':= ?_) ?_;refine zq [30,31] (a':= ?_) ?_;refine zq [32] (a':= ?_) ?_;refine zV AL ?_ _;clear d cK uK hh qj
      go_wp2_with fail;go_ret;rw [F.out];exact⟨rfl,⟨r,j,C,q,j,w,s.out.1.symm,s.out.2.symm,z.fresh (qZ _ o).drew⟩,z'.drew⟩
  ·obtain rfl:f=0:=M
   have hge: ¬(j:V)<(bl:V):=M;have HPF:G (P=(x,y,H)):=by
    rw [Hid,<-HP.out];rfl
   have D:=hR.out;rw [HPF.out] at D;dsimp only at D;have hk1:=vX b 8388608 H M;generalize I':jU b 8388608 H=y1 at*
   obtain⟨k,cu3⟩:=y1;dsimp only at D hk1;have hk2:=vX b 8388608 cu3 M;generalize D':jU b 8388608 cu3=y2 at*
   obtain⟨i,cu4⟩:=y2;dsimp only at D hk2;have hkb:k<=8388608:=M;have hib:i<=8388608:=M;clear hk1 hk2 HP HPF;replace D:=T D;replace D':=T D';have X:=KI.out wr cB A cap H 8388608 HC M;rw [I'] at X;replace X:=T X;replace I':=T I'
   go_wp2_with fail;refine X.mono ?_;rintro e w2 ⟨rfl,N9,d'⟩;have u':=T (HJ.cur HC d');have S':=T (p'.out HM d');have f2:=u'.blk.frozen 2;have g2:=u'.q2;obtain⟨h3,m3,q3⟩:=u'.out.GS N9 k S'.out;have iv:=KI.out _ cB A cap cu3 8388608 q3 M
   rw [D'.out] at iv;replace iv:=T iv;have OX:=T h3;have P':=T m3;have U':=T q3;clear X N9 d' HJ HM HC u' S' h3 m3 q3
   go_wp2_with fail;clear f2 g2;generalize w2.setCell ⟨g,2,none⟩ k=w3 at*
   refine iv.mono ?_;rintro e w4 ⟨rfl,hc4,X'⟩;have iL:=T (OX.cur U' X');have O':=T (p'.out P' X');have f3:=iL.blk.frozen 3;have g3:=iL.q3;obtain⟨h5,m5,q5⟩:=iL.gJ hc4 i O'.out;have KF:=uu _ cB A N cap b cu4 q5;unfold jS at KF;generalize hend:PW b cu4=ce at*
   replace KF:=T KF;have HJ5:=T h5;have HM5:=T m5;have HC5:=T q5;replace hend:=T hend;clear iv hc4 X' OX P' U' iL O' h5 m5 q5
   go_wp2_with fail;clear f3 g3;generalize w4.setCell ⟨g,3,none⟩ i=w5 at*
   refine KF.mono ?_;rintro e o ⟨rfl,hc7,Z'⟩;have z:=T (HJ5.cur HC5 Z');have z':=T (p'.out HM5 Z');clear KF hc7 Z' HJ5 HM5 HC5 KI p';by_cases ln:ce.err=0
   case neg=>
    have F:G (R=(ce.err,⟨x,y,k,i⟩)):=by rw [Hid,D.out,qk ln]
    have hzz:(ce.err==0)=false:=by simpa using ln
    have hzn:(ce.err !=0)=true:=by simpa using ln
    clear hR D;generalize ce.err=ER at*
    replace ln:=T ln
    go_wp2_with fail;go_ret;rw [F.out];exact⟨rfl,⟨r,j,C,q,j,w,s.out.1.symm,s.out.2.symm,z.out⟩,z'.out⟩
   have hR3:=D.out;rw [qJ (by simpa using ln)] at hR3
   have cK:i' o.drew g=_:=z.q0;have uK:i' o.drew ⟨g,1,none⟩=_:=z.q1;have hh:i' o.drew ⟨g,2,none⟩=_:=z.q2;have qj:i' o.drew ⟨g,3,none⟩=_:=z.q3;rw [ln];have G':=s.out.1;have N6:=s.out.2;have r0:=E'.zY z.o0;have r1:=E'.zY z.o1;have s0:=VX x x 20000 HX.out.1;have s1:=VX y y 8388608 HX.out.2;rw [jP,G'] at s0;rw [jP,N6] at s1;have ck:=λc=>T (py r c o 0 x o.drew (by rw [G'];exact r0) M)
   have J':=λc=>T (Z8 r c o x o.drew (by rw [G'];exact r0) M (λa ha=>qv (HX.out.1 a ha) FV))
   have Y':=λc=>T (Z8 q c o y o.drew (by rw [N6];exact r1) M (λa ha=>qv (HX.out.2 a ha) FV))
   rw [G'] at ck J';rw [N6] at Y';have hct:x.contains 0=decide (0∈x):=s8;rw [hct,show((0:O):V)=0 from rfl] at ck
   have Q:G (R=(E9 x y k i u ih,⟨x,y,k,i⟩)):=by
    rw [Hid,hR3];unfold E9;split<;>rfl
   have L:G (E9 x y k i u ih=if 0∈x\/x.sum≠u\/y.sum+k+i≠ih then 2 else 0):=rfl
   generalize E9 x y k i u ih=DE at*
   generalize hsx:x.sum=sx at*
   generalize hsy:y.sum=E at*
   have hsx2:sx<=400000000:=M;have hsy2:E<=200000000000:=M;replace hsx:=T hsx;replace hsy:=T hsy;replace ln:=T ln;clear hR D hR3 r0 r1 s0 s1 hct G' N6;by_cases t:0∈x
   ·have F:G (R=(2,⟨x,y,k,i⟩)):=by rw [Hid,Q.out,L.out,qk (.inl t)]
    rw [qw t] at ck;replace t:=T t;clear Q L
    go_wp2_with fail;refine zv 33 (λl=>i' l g=J (Z r j C)/\i' l ⟨g,1,none⟩=J (Z q j w)/\i' l ⟨g,2,none⟩=J (k:la)/\i' l ⟨g,3,none⟩=J (i:la)) AL ⟨cK,uK,hh,qj⟩ (λd=> ?_)
    refine zq [0,1,2,3] (a':= ?_) ?_;refine vf 4 (T ((ck _).out)) ?_;rintro e w' ⟨rfl,rfl⟩;refine⟨_,rfl,(d),λd=> ?_⟩;refine zq [5] (a':= ?_) ?_;refine zq [6,7,8] (a':= ?_) ?_;refine zq [9,10,11] (a':= ?_) ?_;refine zq [12] (a':= ?_) ?_;refine zq [13,14] (a':= ?_) ?_;refine zq [15,16,17] (a':= ?_) ?_;refine zq [18,19,20] (a':= ?_) ?_;refine zq [21,22,23] (a':= ?_) ?_;refine zq [24,25,26] (a':= ?_) ?_;refine zq [27,28,29] (a':= ?_) ?_;refine zq [30,31] (a':= ?_) ?_;refine zq [32] (a':= ?_) ?_;refine zV AL ?_ _;clear d cK uK hh qj
    go_wp2_with fail;go_ret;rw [F.out];exact⟨rfl,⟨r,j,C,q,j,w,s.out.1.symm,s.out.2.symm,z.fresh (qZ _ o).drew⟩,z'.drew⟩
   ·rw [qc t] at ck
    by_cases cL:sx=u
    ·have hsr1:((sx:V) !=(u:V))=false:=SZ
     have hp1:DW ((E:V)+(k:V))=((E+k:O):V):=SX;have hp2:DW (((E+k:O):V)+(i:V))=((E+k+i:O):V):=SX;by_cases m':E+k+i=ih
     ·have F:G (R=(0,⟨x,y,k,i⟩)):=by
       rw [Hid,Q.out,L.out,qJ (λh=>h.elim t λh=>h.elim (λh=>h cL) λh=>h m')]
      have hq:(((E+k+i:O):V) !=(ih:V))=false:=SZ;generalize E+k=t1 at*
      generalize t1+i=t2 at*
      replace t:=T t;replace m':=T m';replace cL:=T cL;clear Q L
      go_wp2_with fail;refine zv 33 (λl=>i' l g=J (Z r j C)/\i' l ⟨g,1,none⟩=J (Z q j w)/\i' l ⟨g,2,none⟩=J (k:la)/\i' l ⟨g,3,none⟩=J (i:la)) AL ⟨cK,uK,hh,qj⟩ (λd=> ?_)
      refine zq [0,1,2,3] (a':= ?_) ?_;refine vf 4 (T ((ck _).out)) ?_;rintro e w' ⟨rfl,rfl⟩;refine⟨_,rfl,(d),λd=> ?_⟩;refine zq [5] (a':= ?_) ?_;refine zq [6,7,8] (a':= ?_) ?_;refine zq [9,11] (a':= ?_) ?_;refine vf 10 (T ((J' _).out)) ?_;rintro e w' ⟨rfl,rfl⟩;refine⟨_,rfl,(d),λd=> ?_⟩;refine zq [12,13,14] (a':= ?_) ?_;refine zq [15,16,17] (a':= ?_) ?_;refine zq [18,20,21] (a':= ?_) ?_;refine zq [22,23,25] (a':= ?_) ?_;refine zq [26,27,28] (a':= ?_) ?_;refine zq [30] (a':= ?_) ?_;refine vf 19 (T ((Y' _).out)) ?_;rintro e w' ⟨rfl,rfl⟩;refine⟨_,rfl,(d),λd=> ?_⟩;refine zq [24,29,31,32] (a':= ?_) ?_;refine zV AL ?_ _;clear d cK uK hh qj
      go_wp2_with fail;go_ret;rw [F.out];exact⟨rfl,⟨r,j,C,q,j,w,s.out.1.symm,s.out.2.symm,z.fresh (qZ _ o).drew⟩,z'.drew⟩
     ·have F:G (R=(2,⟨x,y,k,i⟩)):=by rw [Hid,Q.out,L.out,qk (.inr (.inr m'))]
      have hq:(((E+k+i:O):V) !=(ih:V))=true:=SZ;generalize E+k=t1 at*
      generalize t1+i=t2 at*
      replace t:=T t;replace m':=T m';replace cL:=T cL;clear Q L
      go_wp2_with fail;refine zv 33 (λl=>i' l g=J (Z r j C)/\i' l ⟨g,1,none⟩=J (Z q j w)/\i' l ⟨g,2,none⟩=J (k:la)/\i' l ⟨g,3,none⟩=J (i:la)) AL ⟨cK,uK,hh,qj⟩ (λd=> ?_)
      refine zq [0,1,2,3] (a':= ?_) ?_;refine vf 4 (T ((ck _).out)) ?_;rintro e w' ⟨rfl,rfl⟩;refine⟨_,rfl,(d),λd=> ?_⟩;refine zq [5] (a':= ?_) ?_;refine zq [6,7,8] (a':= ?_) ?_;refine zq [9,11] (a':= ?_) ?_;refine vf 10 (T ((J' _).out)) ?_;rintro e w' ⟨rfl,rfl⟩;refine⟨_,rfl,(d),λd=> ?_⟩;refine zq [12,13,14] (a':= ?_) ?_;refine zq [15,16,17] (a':= ?_) ?_;refine zq [18,20,21] (a':= ?_) ?_;refine zq [22,23,25] (a':= ?_) ?_;refine zq [26,27,28] (a':= ?_) ?_;refine zq [30] (a':= ?_) ?_;refine vf 19 (T ((Y' _).out)) ?_;rintro e w' ⟨rfl,rfl⟩;refine⟨_,rfl,(d),λd=> ?_⟩;refine zq [24,29,31,32] (a':= ?_) ?_;refine zV AL ?_ _;clear d cK uK hh qj
      go_wp2_with fail;go_ret;rw [F.out];exact⟨rfl,⟨r,j,C,q,j,w,s.out.1.symm,s.out.2.symm,z.fresh (qZ _ o).drew⟩,z'.drew⟩
    ·have F:G (R=(2,⟨x,y,k,i⟩)):=by rw [Hid,Q.out,L.out,qk (.inr (.inl cL))]
     have hsr1:((sx:V) !=(u:V))=true:=SZ;replace t:=T t;replace cL:=T cL;clear Q L
     go_wp2_with fail;refine zv 33 (λl=>i' l g=J (Z r j C)/\i' l ⟨g,1,none⟩=J (Z q j w)/\i' l ⟨g,2,none⟩=J (k:la)/\i' l ⟨g,3,none⟩=J (i:la)) AL ⟨cK,uK,hh,qj⟩ (λd=> ?_)
     refine zq [0,1,2,3] (a':= ?_) ?_;refine vf 4 (T ((ck _).out)) ?_;rintro e w' ⟨rfl,rfl⟩;refine⟨_,rfl,(d),λd=> ?_⟩;refine zq [5] (a':= ?_) ?_;refine zq [6,7,8] (a':= ?_) ?_;refine zq [9,11] (a':= ?_) ?_;refine vf 10 (T ((J' _).out)) ?_;rintro e w' ⟨rfl,rfl⟩;refine⟨_,rfl,(d),λd=> ?_⟩;refine zq [12,13,14] (a':= ?_) ?_;refine zq [15,16,17] (a':= ?_) ?_;refine zq [18,19,20] (a':= ?_) ?_;refine zq [21,22,23] (a':= ?_) ?_;refine zq [24,25,26] (a':= ?_) ?_;refine zq [27,28,29] (a':= ?_) ?_;refine zq [30,31] (a':= ?_) ?_;refine zq [32] (a':= ?_) ?_;refine zV AL ?_ _;clear d cK uK hh qj
     go_wp2_with fail;go_ret;rw [F.out];exact⟨rfl,⟨r,j,C,q,j,w,s.out.1.symm,s.out.2.symm,z.fresh (qZ _ o).drew⟩,z'.drew⟩
end Go.Proofs.YtfnlfpcfkbdcmaaGreatDoor
