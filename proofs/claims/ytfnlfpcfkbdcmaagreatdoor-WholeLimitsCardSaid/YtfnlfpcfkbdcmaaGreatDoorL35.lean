import Derived.Test.YtfnlfpcfkbdcmaaGreatDoorL27
set_option linter.unusedSimpArgs false
set_option linter.unusedVariables false
set_option maxRecDepth 100000
set_option maxHeartbeats 0
open Go.Proofs.Tryz
namespace Go.Proofs.YtfnlfpcfkbdcmaaGreatDoor
open Go.RowKit
def Jf (W:World) (r:Int×qn) (e:Ending) (c:World):Prop:=
 ∃b a,e= .returned (.tuple #[.slice b r.2 a, .int .i64 r.1])/\yG W c 5 b r.2 a (r.2.map B8)
def Pz (o:Opt) (l:List Rec):Int×qn:=if vM 1 o≠0 then(vM 1 o,[]) else if xu l≠0 then(6,[]) else(0,pG o l)
structure rI (o:Opt) (l:List Rec):Prop where
 blk:Es o.plain (Xl o l) l
 tot:(Zb true l).length<=1000000000
 num:(Xl o l).length<=20000
theorem rl (o:Opt) (A:q') (c B:Nat) (l:List Rec) (W:World) (ht:Tab W) (hgl:0<B) (h:Reads W B 4 A l (ji l)) (D:B<=W.heap.size) (hl:l.length<=1000000000) (hc:l.length<=c) (hm:c<=maxLen) (hd: -9223372036854775808<=o.data/\o.data<=9223372036854775807) (Y':xu l=0-> ∀r∈l,Yj r)
  (O':vM 1 o=0->xu l=0->rI o l):
  Calls prog 18 #[.agg (opA o), .slice A l c] W (Jf W (Pz o l)):=by
 obtain⟨R,hR⟩:=j1 (Pz o l);rw [<-hR];unfold Pz at hR;obtain⟨s,b,kk,y,w,x⟩:=o;dsimp only at hd;unfold opA;dsimp only;have D':Hid (Below W.heap.size W (W.alloc (.cells #[s,b,kk,y,w,x] 23))):=z8 _;have V:Hid (Blk (W.alloc (.cells #[s,b,kk,y,w,x] 23)) W.heap.size 23 #[s,b,kk,y,w,x]):=Blk.new _ _ _;have KO:=qj (JX 1 s kk y w x b (W.alloc (.cells #[s,b,kk,y,w,x] 23)) hd);rw [VT 1 s kk y w x b] at KO;have H:=qj h;have HT:=qj ht;have HGL:=qj hgl;have hz1:(W.alloc (.cells #[s,b,kk,y,w,x] 23)).cell? W.heap.size=some (s:Value):=V.cell 0;clear h ht hgl;by_cases h1:vM 1 ⟨s,b,kk,y,w,x⟩=0
 case neg=>
  have HR:=qj (hR.trans (qk h1));generalize vM 1 ⟨s,b,kk,y,w,x⟩=E at*;have hEz:(E==0)=false:=by simpa using h1
  have hEn:(E !=0)=true:=by simpa using h1
  clear hR O' Y';go_in;go_wp2_with fail;refine zC KO ?_;intro w1 iL;have J:=qj (D'.trans (iL.mono D'.size));clear iL hz1;go_wp2;go_ret2;unfold Jf;rw [HR.out];exact⟨none,0,rfl,qP _ _ _ _,J⟩
 rw [qJ (by simpa using h1)] at hR;have KC:=qj (λW h D=>JW A c B l W h D hl);by_cases h2:xu l=0
 case neg=>
  have h6:xu l=6:=by
   revert h2;unfold xu;split<;>simp
  have HR:=qj (hR.trans (qk h2));rw [h6] at KC;rw [h1] at KO;clear hR O' h1 h2 h6 Y';go_in;go_wp2_with fail;refine zC KO ?_;intro w1 iL;have J:=qj (D'.trans (iL.mono D'.size));have M':=qj (KC w1 (H.below (J.mono D)) (qv D J.size));clear iL hz1;go_wp2_with fail;refine zC M' ?_;intro w2 G';have p':=qj (J.trans (G'.mono J.size));clear G';go_wp2;go_ret2;unfold Jf;rw [HR.out];exact⟨none,0,rfl,qP _ _ _ _,p'⟩
 rw [qJ (by simpa using h2)] at hR;have HOK:=qj (Y' h2);clear Y';obtain⟨hblk,htot,hnum⟩:=O' h1 h2;have hbk:16<=s/\s<=32768:=by
  unfold vM at h1;rw [qJ uK] at h1;split at h1
  ·rename_i h;exact h.1
  ·cases h1
 have hll:l.length<=20000:=by
  unfold xu at h2;split at h2
  ·cases h2
  ·rename_i h;omega
 rw [h1] at KO;rw [h2] at KC;have KG:=qj (λW h D=>gj s true A c B l W h D uK HOK htot);have hgr:Hid (GX s true l=Xl ⟨s,b,kk,y,w,x⟩ l):=rfl;rw [hgr.out] at KG;unfold gz at KG;have N9:R=(0,VY (mark 1++xv s.toNat++[dJ b]++xv l.length++xv (Xl ⟨s,b,kk,y,w,x⟩ l).length++Y6 b (Xl ⟨s,b,kk,y,w,x⟩ l) l)):=hR;generalize Xl ⟨s,b,kk,y,w,x⟩ l=G at*;obtain⟨I,rfl⟩: ∃I:Nat,s=(I:Int):=⟨s.toNat,uK⟩;rw [show((I:Nat):Int).toNat=I from rfl] at N9;replace hblk:=qj hblk;clear hR O' h1 h2 htot;go_in;go_wp2_with fail;generalize W.alloc (.cells #[I,b,kk,y,w,x] 23)=w0 at*;refine zC KO ?_;intro w1 iL;have J:=qj (D'.trans (iL.mono D'.size));have HK1:=qj (V.below iL V.lt);have M':=qj (KC w1 (H.below (J.mono D)) (qv D J.size));clear iL hz1;go_wp2_with fail;refine zC M' ?_;intro w2 G';have p':=qj (J.trans (G'.mono J.size));have HK2:=qj (HK1.below G' HK1.lt);have z20:w2.cell? W.heap.size=some (I:Value):=HK2.cell 0;have KG2:=qj (KG w2 (H.below (p'.mono D)) (qv D p'.size));clear G';go_wp2_with fail;refine KG2.mono ?_;rintro e w3 ⟨A3,c3,rfl,ho3,hB3⟩;have HB3:=qj (p'.trans (hB3.mono p'.size));have HK3:=qj (HK2.below hB3 HK2.lt);have HG3:=qj (qi ho3 p'.size);have KM:=qj (CT 1 w3 uK uK);clear ho3 hB3 z20;go_wp2_with fail;refine KM.mono ?_;rintro e w4 ⟨A4,c4,rfl,ho4,hB4⟩;have S':=qj (HB3.trans (hB4.mono HB3.size));have z':=qj (HK3.below hB4 HK3.lt);have HG4:=qj (qG HG3 hB4);have HM4:=qj (Reads.zY ho4);clear ho4 hB4;have M:Hid (∀F,Below w4 w4 F->F.cell? W.heap.size=some (I:Value)/\F.cell? ⟨W.heap.size,1,none⟩=some (.bool b)):=λF hW=>⟨(hW.cell (p:= W.heap.size) z'.lt).trans (z'.cell 0),(hW.cell (p:=⟨W.heap.size,1,none⟩) z'.lt).trans (z'.cell 1)⟩;have KN1:=λW=>qj (vW I W uK);have Q':=λW=>qj (vW l W uK);have N6:=λW=>qj (vW G W uK);have KF:=λW=>qj (Mg b W);have wb:IntKind.u64.wrap (I:Int)=(I:Int):=by rw [qS];omega
 have wl:IntKind.u64.wrap (l.length:Int)=(l.length:Int):=by rw [qS];omega
 have wg:IntKind.u64.wrap (G.length:Int)=(G.length:Int):=by rw [qS];omega
 have ln1:=(jn I).2;have ln2:=(jn l).2;have ln3:=(jn G).2;unfold jQ at KN1 Q' N6;generalize xv I=X,xv l.length=T,xv G.length=Y at*;obtain⟨u,hfv⟩: ∃u:Int,u=((dJ b).toNat:Int):=⟨_,rfl⟩;have m':Hid ([dJ b].map B8=[.int .u8 u]):=by rw [Hid,hfv];rfl
 rw [<-hfv] at KF;replace hfv:=qj hfv;generalize dJ b=fb at*;go_wp2_with fail;refine zv 20 (λF=>F.cell? W.heap.size=some (I:Value)/\F.cell? ⟨W.heap.size,1,none⟩=some (.bool b)) AL (M _ (qZ _ _).drew) (λq=> ?_);refine zq [0,1,2,3,5,6] (a':= ?_) ?_;refine zq [9,10,11,13,14,15] (a':= ?_) ?_;refine carried 4 rfl AL SQ (λK a=> ?_);go_simp
 (go_at_call 31;((with_reducible refine((KN1 _).out).mono ?_);rintro e U ⟨A5,c5,rfl,Z⟩);have bA:Below w4 w4 U:=(qZ _ w4).drew.trans Z.2)
 refine a _ _ ((M _ bA)) (λq=>xg ?_);clear a K;refine vf 7 (qj ((KF _).out)) ?_;rintro e w' ⟨rfl,rfl⟩;refine⟨_,rfl,(q),λq=> ?_⟩;have RA:=Z.reads;have RMA:Reads U w4 1 A4 5 ((mark 1).map B8):=HM4.below bA;clear Z;refine dV 8 12 rfl rfl AL SQ SQ (λK a=> ?_) (λK a=> ?_);go_simp;have f:Below U U (U.alloc (.cells #[.int .u8 u] 5)):=z8 _;have L:=bA.trans (f.mono bA.size);refine a _ _ (M _ L) (λq=>xg ?_);clear a K;refine carried 12 rfl AL SQ (λK a=> ?_);go_simp
 (go_at_call 31;((with_reducible refine((Q' _).out).mono ?_);rintro e O ⟨A6,c6,rfl,j⟩);have Q:=L.trans (j.2.mono L.size))
 refine a _ _ ((M _ Q)) (λq=>xg ?_);clear a K;refine carried 16 rfl AL SQ (λK a=> ?_);go_simp
 (go_at_call 31;((with_reducible refine((N6 _).out).mono ?_);rintro e t ⟨A7,c7,rfl,d⟩);have N:=Q.trans (d.2.mono Q.size))
 refine a _ _ ((M _ N)) (λq=>xg ?_);clear a K;have ZF:Hid (Reads t t 1 U 1 ([fb].map B8)):=by
  rw [m'.out];exact((zU U (.int .u8 u) 5).below ((j.2.mono s8).trans (d.2.mono (qv s8 j.2.size)))).more (qv s8 (qv j.2.size d.2.size))
 have ZA:Hid (Reads t t 1 A5 X (X.map B8)):=(((RA.below f).below (j.2.mono f.size)).below (d.2.mono (qv f.size j.2.size))).more (qv f.size (qv j.2.size d.2.size));have ZB:Hid (Reads t t 1 A6 T (T.map B8)):=(j.reads.below d.2).more d.2.size;have ZC:Hid (Reads t t 1 A7 Y (Y.map B8)):=d.reads;have ZZ:=qj N;generalize U.heap.size=gF at*;clear f L Q N j d RA RMA bA q;rotate_left;go_simp
 (go_at_call 31;((with_reducible refine((Q' _).out).mono ?_);rintro e O ⟨A6,c6,rfl,j⟩))
 have Q:=bA.trans (j.2.mono bA.size);refine a _ _ (M _ Q) (λq=>xg ?_);clear a K;refine dV 8 16 rfl rfl AL SQ SQ (λK a=> ?_) (λK a=> ?_);go_simp;have f:Below O O (O.alloc (.cells #[.int .u8 u] 5)):=z8 _;have L:=Q.trans (f.mono Q.size);refine a _ _ (M _ L) (λq=>xg ?_);clear a K;refine carried 16 rfl AL SQ (λK a=> ?_);go_simp
 (go_at_call 31;((with_reducible refine((N6 _).out).mono ?_);rintro e t ⟨A7,c7,rfl,d⟩);have N:=L.trans (d.2.mono L.size))
 refine a _ _ ((M _ N)) (λq=>xg ?_);clear a K;have ZF:Hid (Reads t t 1 O 1 ([fb].map B8)):=by
  rw [m'.out];exact((zU O (.int .u8 u) 5).below (d.2.mono s8)).more (qv s8 d.2.size)
 have ZA:Hid (Reads t t 1 A5 X (X.map B8)):=(((RA.below j.2).below (f.mono j.2.size)).below (d.2.mono (qv j.2.size f.size))).more (qv j.2.size (qv f.size d.2.size));have ZB:Hid (Reads t t 1 A6 T (T.map B8)):=((j.reads.below f).below (d.2.mono f.size)).more (qv f.size d.2.size);have ZC:Hid (Reads t t 1 A7 Y (Y.map B8)):=d.reads;have ZZ:=qj N;generalize O.heap.size=gF at*;clear f L Q N j d RA RMA bA q;rotate_left;go_simp
 (go_at_call 31;((with_reducible refine((N6 _).out).mono ?_);rintro e z ⟨A7,c7,rfl,d⟩))
 have N:=Q.trans (d.2.mono Q.size);refine a _ _ (M _ N) (λq=>xg ?_);clear a K;have f:Below z z (z.alloc (.cells #[.int .u8 u] 5)):=z8 _;have L:=N.trans (f.mono N.size);refine carried 8 rfl AL SQ (λK a=> ?_);go_simp;skip;refine a _ _ ((M _ L)) (λq=>xg ?_);clear a K;have ZF:Hid (Reads (z.alloc (.cells #[.int .u8 u] 5)) (z.alloc (.cells #[.int .u8 u] 5)).heap.size 1 z 1 ([fb].map B8)):=by
  rw [m'.out];exact(zU z (.int .u8 u) 5).more s8
 have ZA:Hid (Reads (z.alloc (.cells #[.int .u8 u] 5)) (z.alloc (.cells #[.int .u8 u] 5)).heap.size 1 A5 X (X.map B8)):=(((RA.below j.2).below (d.2.mono j.2.size)).below (f.mono (qv j.2.size d.2.size))).more (qv j.2.size (qv d.2.size f.size));have ZB:Hid (Reads (z.alloc (.cells #[.int .u8 u] 5)) (z.alloc (.cells #[.int .u8 u] 5)).heap.size 1 A6 T (T.map B8)):=((j.reads.below d.2).below (f.mono d.2.size)).more (qv d.2.size f.size);have ZC:Hid (Reads (z.alloc (.cells #[.int .u8 u] 5)) (z.alloc (.cells #[.int .u8 u] 5)).heap.size 1 A7 Y (Y.map B8)):=(d.reads.below f).more f.size;have ZZ:=qj L;obtain⟨gF,hgF⟩:=j1 z.heap.size;rw [<-hgF] at ZF⊢;clear hgF;clear f L Q N j d RA RMA bA q;generalize z.alloc (.cells #[.int .u8 u] 5)=t at*;rotate_left;all_goals
  have KA:=qj (EW t A4 A5 gF A6 A7 5 X 1 T Y c4 c5 1 c6 c7 (mark 1) X [fb] T Y ((HM4.below ZZ).more ZZ.size) ZA ZF ZB ZC uK);have bW:Below w4 w4 (t.alloc (.cells #[.slice A4 5 c4, .slice A5 X c5, .slice gF 1 1, .slice A6 T c6, .slice A7 Y c7] 30)):=ZZ.alloc ZZ.size _;have hdl:(mark 1++X++[fb]++T++Y).length<=100:=by
   simp only [qK,qf,zF];have:(mark 1).length=5:=rfl;omega
  unfold jQ at KA;generalize mark 1++X++[fb]++T++Y=hd at*;refine carried 17 rfl AL SQ (λK a=> ?_);go_simp;skip;refine a _ _ ((M _ bW)) (λq=>xg ?_);clear a K;refine carried 18 rfl AL SQ (λK a=> ?_);go_simp
  (go_at_call 30;((with_reducible refine(KA.out).mono ?_);rintro e wE ⟨A9,c9,rfl,hfE⟩);have bE:=bW.trans (hfE.2.mono bW.size))
  refine a _ _ ((M _ bE)) (λq=>xg ?_);clear a K;refine zq [19] (a':= ?_) ?_;refine zV AL ?_ _;have HBE:=qj (S'.trans (bE.mono S'.size));have HKE:=qj (z'.below bE z'.lt);have HGE:=qj (qG HG4 bE);have HOE:=qj (qi hfE.1 (qv S'.size bW.size));clear KA bW bE hfE q M KN1 Q' N6 KF wb wl wg;generalize hhl:hd.length=m0 at*;replace hhl:=qj hhl;obtain⟨i0,hi,iz0,iz1,iz2⟩:=xt QB;obtain⟨j0,hj,jz0,jz1,jz2⟩:=qA PH;replace hj:=qj hj;replace jz1:=qj jz1;clear jz0 jz2;generalize hnl:l.length=nl at*;replace hnl:=qj hnl;generalize Z':G.length=ng at*;replace Z':=qj Z';replace N9:=qj N9;go_wp2;go_loopw [1,9,54] (λv1 v9 v54 wr=> ∃(i C S m c2:Nat) (Ar A2:q') (v:List Rec) (d':qn),v1= .slice Ar C S/\v9= .slice A2 m c2/\v54=(i:Value)/\i<=ng/\C<=S/\S<=maxLen/\C<=20000/\m<=100+40000*i/\Hid (v.length=C)/\Hid (d'.length=m)/\Hid (Es b (G.drop i) v)/\Hid (R=(0,VY (d'++Y6 b (G.drop i) v)))/\Hid (∀r∈v,Yj r)/\Hid (Reads wr B 4 Ar C (ji v))/\Hid (wr.ownsRow W.heap.size 5 1 (.slice A2 m c2) m (d'.map B8))/\Hid (Below W.heap.size W wr)/\Hid (Blk wr W.heap.size 23 #[I,b,kk,y,w,x])/\Hid (wr.ownsRow W.heap.size 3 1 (.slice A3 ng c3) ng (G.map NV))) (λ_ _ v54 _=>ng-(intOf v54).toNat)
  ·exact⟨0,nl,c,m0,c9,A,A9,l,hd,rfl,rfl,rfl,qp _,hc,hm,hll,uK,hnl,hhl,hblk,N9,HOK,H.below (HBE.mono D),HOE,HBE,HKE,HGE⟩
  ·obtain⟨i,C,S,m,c2,Ar,A2,v,d',rfl,rfl,rfl,hin,hnr,hcr,hn2,hm4,HLR,HACC,HBO,OX,X',HRD,HO,HB,V,HG⟩:=hrel;by_cases hlt:i<ng
   ·have hlt':=j' i ng;have hig:i<G.length:=by rw [Z'.out];exact hlt
    have hdr:G.drop i=G[i]::G.drop (i+1):=zK hig;have HBO2:=HBO.out;have I':=OX.out;rw [hdr] at HBO2 I';unfold Es at HBO2;unfold Y6 at I';obtain⟨hnlr,hb32,hsq,HBO3⟩:=HBO2;obtain⟨g3,hg3⟩:=Zx HG uK;subst hg3;have hcx:=(xU (k:=i) HG hlt).1;rw [qD,qX hig] at hcx;generalize G[i]=n at*;have hcx2:wr.cell? ⟨g3,i,none⟩=some (n:Value):=hcx;have htl:(v.take n).length=n:=by rw [qh];omega
    have hnr2:n<=C:=by rw [<-HLR.out];exact hnlr
    have KY:=P8 true Ar S B (v.take n) wr.drew (by rw [htl];exact(HRD.ik hnr2).drew) (qv D HB.size) (by rw [htl];omega) (λr hr=>X'.out r (j2 hr)) uK;rw [htl] at KY;replace KY:=qj KY;have KWR:=qj (λW A c h1 h2=>Ur A (Zb true (v.take n)).length c W.heap.size (Zb true (v.take n)) b W h1 h2 (qx _) hb32 hsq);have hwl:=pL (Zb true (v.take n)) b hb32;generalize Zb true (v.take n)=bs at*;unfold jQ at KY;unfold Qr at KWR;generalize Fx bs b=ws at*;have hd2:(v.drop n).length=C-n:=by rw [qI,HLR.out]
    have HRD2:Hid (∀F,Below W.heap.size W F->Reads F B 4 Ar C (ji v)->Reads F B 4 (xo Ar S n 4) (C-n) (ji (v.drop n))):=λF _ h=>h.MG hnr2 hnr;have HRO2:Hid (∀r∈v.drop n,Yj r):=λr hr=>X'.out r (Q1 hr);have hcut:=jI (P:=prog) 24 45 j0 4 QL hj jz1 Ar C S n .i64 hnr2;generalize v.drop n=lr2 at*;rw [<-jY] at I';replace I':=qj I';replace HBO3:=qj HBO3;have z1:wr.cell? ⟨W.heap.size,1,none⟩=some (.bool b):=V.cell 1;have hn0:=xi n;have hncr:=vc n S;have hnnr:=vc n C;have hgW:=qj V.lt;clear hdr hb32 hsq hnlr hcx HBO OX htl X';go_wp2_with fail;refine zv 12 (λF=>F.cell? ⟨W.heap.size,1,none⟩=some (.bool b)) AL z1 (λq=> ?_);refine zq [0,1,2,4,5] (a':= ?_) ?_;refine carried 3 rfl AL SQ (λK a=> ?_);go_simp
    (go_at_call 34;((with_reducible refine(KY.out).mono ?_);rintro e U ⟨Ab,cb,rfl,Z⟩);have HBA:Below W.heap.size W U:=HB.out.drew.trans (Z.2.mono (show W.heap.size<=wr.drew.heap.size from HB.out.size));have KWA:=qj (KWR.out U Ab cb (HT.out.below HBA HT.out.pos) Z.reads))
    refine a _ _ (((Z.2.cell (p:=⟨W.heap.size,1,none⟩) hgW).trans z1)) (λq=>xg ?_);clear a K;refine vf 6 KWA ?_;rintro e O ⟨Aw,cw,rfl,m'⟩;refine⟨_,rfl,(((m'.2.cell (p:=⟨W.heap.size,1,none⟩) (qB hgW Z.2.size)).trans q)),λq=> ?_⟩;refine zq [7,8,9,10,11] (a':= ?_) ?_;refine zV AL ?_ _;have J':Below wr.heap.size wr O:=((qZ wr.heap.size wr).drew.trans Z.2).trans (m'.2.mono Z.2.size);have HBB:=qj (HBA.trans (m'.2.mono HBA.size));have HKB:=qj (V.below J' V.lt);have HGB:=qj (qG HG J');have N':=qj (qG HO J');have HRB:=qj (HRD.below (J'.mono (qv D HB.size)));have HWB:=qj m'.reads;obtain⟨nw,hnw⟩:=j1 ws.length;rw [<-hnw] at HWB hwl⊢;replace hnw:=qj hnw;have hm1:m+nw<=maxLen:=SJ;have hm2:(m+nw)*1<=140737488355328:=uK;have P':Hid (W.heap.size<=O.heap.size):=HBB.size;clear KY Z m' J' HBA HB V HG HO HRD z1 q;go_wp2_with (at_builtin;refine qF _ rfl (.tmp 71) (.tmp 72) 30 rfl W.heap.size 5 i0 (.int .u8 0) 1 1 qu hi iz0 iz1 iz2 rfl uK A2 m c2 _ rfl N' O Aw nw cw _ rfl HWB (YR _) hm1 hm2 P' ?_;intro A12 c12 w12 U' hg12 _hs12;have u':qE (fpS A2) O w12:=(qE.refl _ _).grown hg12 (λk hk=> .inl hk);replace U':=qj U';replace u':=qj u';clear hg12 _hs12);have hlo: ∀k∈fpS A2,W.heap.size<=k:=λk hk=>(zj N' k hk).1;have HB12:Hid (Below W.heap.size W w12):=HBB.trans (u'.below hlo P');have HK12:=qj (u'.blk HKB (λhk=>qT N' HKB FV _ hk rfl));have HG12:=qj (u'.own HGB (xz HGB N' FV));have HR12:=qj (HRD2 w12 HB12 (HRB.below (u'.below (λk hk=>qv D (hlo k hk)) (qv D P'))));have HO12:Hid (w12.ownsRow W.heap.size 5 1 (.slice A12 (m+nw) c12) (m+nw) ((d'++ws).map B8)):=by rw [Hid,qg];exact U'.out
    have hac2:Hid ((d'++ws).length=m+nw):=by rw [Hid,qK,HACC.out,hnw.out]
    have hcr2:Hid (C-n<=S-n/\S-n<=maxLen/\C-n<=20000):=by rw [Hid];omega
    replace hd2:=qj hd2;clear hlo hcx2;refine xk ?_;exact⟨i+1,C-n,S-n,m+nw,c12,xo Ar S n 4,A12,lr2,d'++ws,xb,xb,xb,uK,hcr2.out.1,hcr2.out.2.1,hcr2.out.2.2,uK,hd2,hac2,HBO3,I',HRO2,HR12,HO12,HB12,HK12,HG12⟩
   ·obtain rfl:i=ng:=uK;have hfin:Hid (R=(0,VY d')):=by
     have h:=OX.out;rw [zD (by rw [Z'.out];exact qx _)] at h;unfold Y6 at h;rw [jx] at h;exact h
    have hcap:=jC HO.out;have KP:=qj (XI A2 m c2 wr.heap.size d' wr (HT.below HB HT.pos) (Reads.zY HO) (qx _) hcap.1 hcap.2 uK);have hpl:Hid ((VY d').length=m+4):=by rw [Hid,ve,HACC.out]
    unfold jQ at KP;clear HBO OX X' HRD hcap V HG;go_wp2_with fail;refine KP.mono ?_;rintro e w9 ⟨A13,c13,rfl,hf⟩;have HF:Hid (yG W w9 5 A13 (m+4) c13 ((VY d').map B8)):=⟨qi hf.1 HB.size,HB.trans (hf.2.mono HB.size)⟩;clear hf;go_wp2;go_ret2;unfold Jf;rw [hfin.out];dsimp only;rw [hpl.out];exact⟨A13,c13,rfl,HF⟩
end Go.Proofs.YtfnlfpcfkbdcmaaGreatDoor
