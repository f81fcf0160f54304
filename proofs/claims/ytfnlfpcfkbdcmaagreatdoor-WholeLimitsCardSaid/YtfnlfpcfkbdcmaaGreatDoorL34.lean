import Derived.Test.YtfnlfpcfkbdcmaaGreatDoorL31
import Derived.Test.YtfnlfpcfkbdcmaaGreatDoorL32
set_option linter.unusedSimpArgs false
set_option linter.unusedVariables false
set_option maxRecDepth 100000
set_option maxHeartbeats 0
open Go.Proofs.Tryz
namespace Go.Proofs.YtfnlfpcfkbdcmaaGreatDoor
open Go.RowKit
def Dc (W:World) (r:Int×Opt×qn×Nat) (e:Ending) (a:World):Prop:=
 Below W W a/\((r.1≠0/\e= .returned (.tuple #[.pointer none,zn,(), .int .i64 r.1]))\/(r.1=0/\ ∃g A n c b d,e= .returned (.tuple #[.pointer (some ⟨g,0,none⟩), .slice A n c, .int .i64 (r.2.2.2:Nat),()])/\n=r.2.2.1.length/\Blk a g 76 (h3A r.2.1 b d)/\Reads a a 1 A n (r.2.2.1.map B8)/\n<=c/\c<=maxLen))
theorem rA {b a:qn} (h:UN b=(0,a)):42<=b.length/\a.length=21:=by
 unfold UN at h;split at h
 ·cases h
 ·rename_i d;obtain⟨c,l2⟩:=uW b uK;refine⟨uK, ?_⟩;split at h
  ·injection h with _ h;rw [<-h];exact c
  ·split at h
   ·injection h with _ h;rw [<-h];exact l2
   ·cases h
theorem l8 (a:qn):dM a<4294967296:=by
 unfold dM;have h:=Yy ((a.drop 13).take 4);have h2:((a.drop 13).take 4).length<=4:=by rw [qh];omega
 exact qB h (zZ uK h2)
theorem O6 (k m ch:Int) (n:Nat) (s:qn) (h:srE k m ch n s=0):(srB k m ch n s).length<=100000000:=by
 by_cases h1:ZM k m ch n=0
 case neg=>
  unfold srE at h;rw [qk h1] at h;exact absurd h h1
 obtain⟨a,b,g,rfl,rfl,rfl,d,c⟩:=k_ h1;have h5:srB a b g n s=rdB a b g n (YA (a*g) n) s:=rfl;rw [h5];unfold rdB;split
 ·have h2:=SG (g+4) s (YA (a*g) n*(a+b));have h3:=c.t2;have h4:=c.hT;rw [h4] at h3;have h6:YA (a*g) n*(a+b)<=YA (a*g) n*((a+b)*(g+4)):=yz _ (Xp _ uK);omega
 ·exact qp _
theorem TN (A:Option Addr) (n c:Nat) (b:List UInt8) (W:World) (ht:Tab W) (h:Reads W W.heap.size 1 A n (b.map B8)) (Y:n<=c) (hm:c<=maxLen) (hn:n<=100000000) (C:LR\/gp b=true):
  Calls prog 118 #[.slice A n c] W (Dc W (V7 b)):=by
 have D':b.length=n:=h.len;obtain⟨R,d⟩: ∃R,R=V7 b:=⟨_,rfl⟩;rw [<-d];unfold V7 at d;dsimp only at d;have F:=Gy A n c W.heap.size b W ht h (qx _) Y hm uK;unfold oK at F;unfold gp at C;rw [D'] at C;have G: ∀a,UN b=(0,a)->42<=b.length/\a.length=21:=λa h=>rA h;generalize UN b=ch at*
 obtain⟨E,a⟩:=ch;dsimp only at d F C;have HT:=qj ht;have H:=qj h;replace C:=qj C;replace F:=qj F;replace d:=qj d;replace G:=qj G;clear ht h;go_enter func118,ntmps118
 go_wp2_with fail;refine F.mono ?_;rintro e t ⟨A1,n1,c1,J',rfl,hr1,hc1,hcm1,N9⟩;have B:=qj N9;have OX:=qj hr1;clear F hr1 N9;by_cases y:E=0
 focus
  subst y;obtain⟨h42,hxl⟩:=G.out a rfl;rw [hxl] at J';subst J';have d:=d.out;rw [qJ s8] at d;have J:=Ny A1 c1 W.heap.size a t OX B.size hc1 hcm1;unfold oP at J;have hnn:=l8 a;have l:R=(if dk a≠0 then(dk a,opZ,[],0) else if srE (YX a).data (YX a).par (YX a).chunk (dM a:Nat) ((b.drop 21).take (b.length-42))≠0 then(srE (YX a).data (YX a).par (YX a).chunk (dM a:Nat) ((b.drop 21).take (b.length-42)),opZ,[],0) else(0,YX a,srV (YX a).data (YX a).par (YX a).chunk (dM a:Nat) ((b.drop 21).take (b.length-42)),(srB (YX a).data (YX a).par (YX a).chunk (dM a:Nat) ((b.drop 21).take (b.length-42))).length+(if Zj b=Jw b then 0 else 1))):=d
  have U:dk a=if 1<(a.getD 5 0).toNat then 2 else vM 3 (YX a):=rfl
  clear d;generalize dk a=M at*
  generalize (a.getD 5 0).toNat=pp at*
  generalize vM 3 (YX a)=CE at*
  generalize YX a=o at*
  generalize dM a=s at*
  by_cases L:1<pp
  ·rw [qk L] at U
   subst U;have i:Hid (R=(2,opZ,[],0)):=by rw [Hid,l,qk FV]
   have O:Hid (Calls prog 168 #[.slice A1 21 c1] t λe w'=>e= .returned (.tuple #[.pointer none, .int .i64 2])/\Below t t w'):=qj (J.mono (by
    rintro e w' ⟨hB,⟨_,he⟩|⟨h0,_⟩⟩
    ·exact⟨he,hB⟩
    ·exact absurd L h0))
   replace l:=qj l;clear J l G
   go_wp2_with fail;refine O.mono ?_;rintro e j ⟨rfl,I⟩;have v:=qj (B.trans (I.mono B.size));clear O I
   go_wp2_with fail
   (try simp only [Exit.inBlock,Exit.then]);refine qW (QM rfl _ _ _) rfl ?_
   unfold Dc;rw [i.out];exact⟨v.out, .inl ⟨FV,rfl⟩⟩
  rw [qJ L] at U;subst U;have O:Hid (Calls prog 168 #[.slice A1 21 c1] t λe w'=> ∃g,e= .returned (.tuple #[.pointer (some ⟨g,0,none⟩),M])/\Blk w' g 76 (h3A o (s:Nat) (pp:Int))/\Below t t w'):=qj (J.mono (by
   rintro e w' ⟨hB,⟨h0,_⟩|⟨_,g,he,hg,hb⟩⟩
   ·exact absurd h0 L
   ·exact⟨g,he,hb,hB⟩))
  clear J G L;replace l:=qj l
  go_wp2_with fail;refine O.mono ?_;rintro e j ⟨g,rfl,hb2,I⟩;have v:=qj (B.trans (I.mono B.size));have Q:=qj hb2;clear O I hb2 OX;by_cases z:M=0
  focus
   subst z;have p:=l.out;rw [qJ s8] at p;obtain⟨m,O'⟩: ∃m,n=m+21:=⟨n-21,uK⟩;obtain⟨q,hmq⟩: ∃q,m=q+21:=⟨m-21,uK⟩;obtain⟨i0,hi,hz0,Y',hz2⟩:=qA QB;have hcut:=Vo (P:=prog) 30 5 i0 1 qu hi Y' A n c 21 m .i64 .i64 uK uK;rw [show((21:Nat):Int)=21 from rfl,show m-21=q by omega] at hcut
   rw [D',show n-42=q by omega] at p
   have iL:Below W.heap.size W j.drew:=v.drew;have hsr:Reads j.drew W.heap.size 1 (xo A c 21 1) q (((b.drop 21).take q).map B8):=((H.below iL).VC (k:=21) uK Y).takeN uK;have N:=Tn o.data o.par o.chunk s (xo A c 21 1) q (c-21) ((b.drop 21).take q) j.drew (HT.below iL HT.pos) (hsr.more iL.size) uK uK (by have h:=C.out;rwa [show n-42=q by omega] at h)
   have d':=O6 o.data o.par o.chunk s ((b.drop 21).take q);unfold oF at N;generalize srE o.data o.par o.chunk s ((b.drop 21).take q)=E3 at*
   generalize srV o.data o.par o.chunk s ((b.drop 21).take q)=vs at*
   generalize srB o.data o.par o.chunk s ((b.drop 21).take q)=bs at*
   have hsub:(n:Int)-21=(m:Int):=uK;have hwm:IntKind.i64.wrap (m:Int)=(m:Int):=SX;have hm0:(21:Int)<=(m:Int):=uK;have hmc:(m:Int)<=(c:Int):=uK;have hmn:(m:Int)<=(n:Int):=uK;have HS:Hid (∀f,Below j j f->f.cell? ⟨g,3,none⟩=some (o.data:Value)/\f.cell? ⟨g,4,none⟩=some (o.par:Value)/\f.cell? ⟨g,5,none⟩=some (o.chunk:Value)/\f.cell? ⟨g,6,none⟩=some (s:Value)):=λf hW=>by
    have Z:=Q.below hW Q.lt;exact⟨Z.cell 3,Z.cell 4,Z.cell 5,Z.cell 6⟩
   have KCo:=qj (λw=>Gx A n c w uK Y hm uK);replace N:=qj N;replace p:=qj p;replace d':=qj d';have I':Hid (42<=n):=by rw [Hid];omega
   replace O':=qj O';replace hmq:=qj hmq;clear l hi hz0 Y' hz2 iL hsr h42 hn
   go_wp2_with fail;refine zv 32 (λf=>f.cell? ⟨g,3,none⟩=some (o.data:Value)/\f.cell? ⟨g,4,none⟩=some (o.par:Value)/\f.cell? ⟨g,5,none⟩=some (o.chunk:Value)/\f.cell? ⟨g,6,none⟩=some (s:Value)) AL (HS.out _ (qZ _ _).drew) (λhHeld=> ?_)
   refine zq [0,1,2,3,4,5] (a':= ?_) ?_;refine zq [6,7,8,9,10,11] (a':= ?_) ?_;refine zq [12,13,14,15,16,17] (a':= ?_) ?_;refine zq [18,19,20,21,22,23] (a':= ?_) ?_;refine vf 24 N ?_;rintro e w3 ⟨A3,n3,c3,A4,n4,c4,rfl,G',S⟩;refine⟨_,rfl,((HS.out _ ((qZ _ j).drew.trans G'))),λhHeld=> ?_⟩;refine zq [25,26,27,28,29,30] (a':= ?_) ?_;refine zq [31] (a':= ?_) ?_;refine zV AL ?_ _;have bX:Below j j w3:=(qZ _ j).drew.trans G';have N6:=qj (Q.below bX Q.lt);have z':=qj (v.trans (bX.mono v.size));replace S:=qj S;clear N G' bX HS v Q hHeld hcut;by_cases u:E3=0
   focus
    subst u;obtain⟨p',m',hr3,hc3,Z'⟩:=S.out rfl;have x:=p.out;rw [qJ s8,<-m'] at x;have hb4:=d'.out rfl;rw [<-m'] at hb4;obtain⟨l1,l2⟩:=uW b (by rw [D'];exact I')
    have P':=qj hr3;replace x:=qj x;replace p':=qj p';replace m':=qj m';have u':=qj (And.intro hc3 Z');have X':=qj (KCo.out w3);have HF:Hid (∀V,Below W.heap.size W V->Reads V W.heap.size 1 A 21 ((Zj b).map B8)):=λV D=>(H.below D).takeN (by have:=I'.out;omega)
    have S':Hid (∀V,Below W.heap.size W V->Reads V W.heap.size 1 (xo A c (n-21) 1) 21 ((Jw b).map B8)):=λV D=>by
     have:=(H.below D).VC (k:=n-21) uK Y;rw [show n-(n-21)=21 by have:=I'.out;omega] at this
     unfold Jw;rw [D'];exact this
    have KE:=qj (λV (D:Below W.heap.size W V)=>TS A (xo A c (n-21) 1) 21 21 c (c-(n-21)) W.heap.size W.heap.size (Zj b) (Jw b) V (HF.out V D) (S'.out V D) FV FV);generalize hA2:xo A c (n-21) 1=A2 at*
    generalize hC2:c-(n-21)=c2 at*
    clear p S d' hr3 hc3 Z' KCo HF S' hA2 hC2 l1 l2
    go_wp2_with fail;refine X'.mono ?_;rintro e w4 ⟨rfl,hd4⟩;have T:=hd4.below w3;have X:=qj (z'.trans (T.mono z'.size));have M':=qj (N6.below T N6.lt);have U':=qj ((P'.below T).more T.size);have KE4:=qj (KE.out w4 X);clear X' KE hd4 T z' N6 P'
    go_wp2_with fail;refine KE4.mono ?_;rintro e w5 ⟨rfl,hd5⟩;have K:=hd5.below w4;have HB5:=qj (X.trans (K.mono X.size));have HK5:=qj (M'.below K M'.lt);have Q':=qj ((U'.below K).more K.size);clear KE4 hd5 K X M' U';by_cases r:Zj b=Jw b
    focus
     have i:Hid (R=(0,o,vs,n4)):=by rw [Hid,x.out,qk r];rfl
     rw [qw r];replace r:=qj r;clear x
    rotate_left
    focus
     have i:Hid (R=(0,o,vs,n4+1)):=by rw [Hid,x.out,qJ r]
     rw [qc r];replace r:=qj r;have hw1:IntKind.i64.wrap ((n4:Int)+1)=((n4+1:Nat):Int):=SX;clear x
    rotate_left
   rotate_left 2
   focus
    have i:Hid (R=(E3,opZ,[],0)):=by rw [Hid,p.out,qk u]
    have hEz:(E3==0)=false:=by simpa using u
    have N':(E3 !=0)=true:=by simpa using u
    replace u:=qj u;clear p S
   rotate_left
  rotate_left 3
  focus
   have i:Hid (R=(M,opZ,[],0)):=by rw [Hid,l.out,qk z]
   have hEz:(M==0)=false:=by simpa using z
   have N':(M !=0)=true:=by simpa using z
   replace z:=qj z;clear l
  rotate_left
 rotate_left 4
 focus
  have i:Hid (R=(E,opZ,[],0)):=by rw [Hid,d.out,qk y];rfl
  have hEz:(E==0)=false:=by simpa using y
  have N':(E !=0)=true:=by simpa using y
  replace y:=qj y;clear d G J'
 rotate_left
 all_goals
  go_wp2_with fail
  (try simp only [Exit.inBlock,Exit.then]);refine qW (QM rfl _ _ _) rfl ?_
  unfold Dc;rw [i.out]
 ·exact⟨HB5.out, .inr ⟨rfl,g,A3,n3,c3,_,_,rfl,p'.out,HK5.out,Q'.out,u'.out.1,u'.out.2⟩⟩
 ·exact⟨HB5.out, .inr ⟨rfl,g,A3,n3,c3,_,_,by first|rfl|simp,p'.out,HK5.out,Q'.out,u'.out.1,u'.out.2⟩⟩
 ·exact⟨z'.out, .inl ⟨u.out,rfl⟩⟩
 ·exact⟨v.out, .inl ⟨z.out,rfl⟩⟩
 ·exact⟨B.out, .inl ⟨y.out,rfl⟩⟩
end Go.Proofs.YtfnlfpcfkbdcmaaGreatDoor
