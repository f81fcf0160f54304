import Derived.Test.YtfnlfpcfkbdcmaaGreatDoorT30
set_option linter.unusedSimpArgs false
set_option linter.unusedVariables false
set_option maxRecDepth 100000
set_option maxHeartbeats 0
open Go.Proofs.Tryz
namespace Go.Proofs.YtfnlfpcfkbdcmaaGreatDoor
section
open Go.RowKit
variable {W:I}{b0 base c k:O}{l:q'}{o:Lx}
def Gp (a:Bool):S O->S JH->Prop
 |[],_=>True
 |n::c,l=>n<=U l/\U (pa false (l.take n))<=32768/\(a=false->Sq (Bs (pa false (l.take n))))/\Gp a c (l.drop n)
theorem B0 {b:Bool}: ∀{a:S O} {l:S JH} (h:Gp b a l) (i:O) (hi:i<U a),(a.take i).sum+a[i]<=U l/\U (pa false ((l.drop (a.take i).sum).take a[i]))<=32768/\(b=false->Sq (Bs (pa false ((l.drop (a.take i).sum).take a[i]))))
 |n::c,l,⟨h1,h2,h3,h4⟩,0,_=>by
  refine⟨?_, ?_, ?_⟩
  ·show 0+n<=U l;omega
  ·exact h2
  ·exact h3
 |n::c,l,⟨h1,h2,h3,h4⟩,i+1,hi=>by
  have h:=B0 h4 i (by simpa using hi)
  rw [qI,vh] at h;have e:((n::c).take (i+1)).sum=n+(c.take i).sum:=by rw [List.take_succ_cons,List.sum_cons]
  rw [e];have d:(n::c)[i+1]=c[i]'(by simpa using hi):=rfl
  rw [d];exact⟨M,h.2.1,h.2.2⟩
theorem uy (b:Bool): ∀(c:S O) (n:O) (l:S JH),vF b (c++[n]) l=vF b c l++[Rv (pa false ((l.drop c.sum).take n)) b]
 |[],n,l=>by simp [vF]
 |a::t,n,l=>by
  show Rv _ b::vF b (t++[n]) (l.drop a)=_
  rw [uy b t n (l.drop a),vh,List.sum_cons];rfl
structure pQ (o:Lx) (l:S JH):Prop where
 blk:Gp o.plain (ZK o l) l
 tot:U (pa false l)<=1000000000
 num:U (ZK o l)<=20000
 grs: ∀x∈ZK o l,x<=20000
 rs:T5 (bn l).1=true
 ls: ∀x∈(bn l).2,B5 l (-1) (J9 x)=true/\1<=U x
 fw:(bn l).2.length<=50000
 ix:U (YT o l)<=10000000
 co:U (P5 l)<=10000000
def IT (a b:la) (k i:O):Array Value:= #[a,b,k,i]
structure MkJ (W3 W:I) (gD:O) (ng cg:O) (Ag:q') (i c9 c1:O) (A9 A1:q') (fs:S qn):Prop where
 bl:r' W3 W3 W
 dir:F' W gD 96 (IT (Z Ag ng cg) (Z A1 i c1) 0 0)
 ls:zM W 0 W3 A9 i c9 fs
 sz:xp W W3 3 1 (Z A1 i c1) i ((fs.map (·.length)).map NV)
theorem MkJ.fresh {m g:I} {j i e c1:O} {d f:q'} {b:S qn} (h:MkJ m W k j c l i e c1 d f b) (a:r' W W g):MkJ m g k j c l i e c1 d f b:=⟨h.bl.trans (a.mono h.bl.size),h.dir.below a h.dir.lt,h.ls.below a,qG h.sz a⟩
theorem uN {a:Bool}: ∀{b:S O} {l:S JH},Gp a b l-> ∀f∈vF a b l,U f<=40000
 |[],l,_,f,h=>by cases h
 |n::c,l,⟨h1,h2,h3,h4⟩,f,h=>by
  rcases qL.1 h with rfl|h
  ·exact pL _ _ h2
  ·exact uN h4 f h
theorem GP: ∀(c s:S O),U (VU c s)<=20*U c
 |[],_=>by simp [VU]
 |n::c,[]=>by simp [VU]
 |n::c,s::t=>by
  have h:=GP c t;have h1:=(jn n).2;have h2:=(jn s).2;show(kD n++kD s++VU c t).length<=_;rw [qK,qK,qf];omega
theorem oa (d:Dir):U (Cz d)<=20*U d.counts+40:=by
 have h:=GP d.counts d.sizes;have h1:=(jn d.counts.sum).2;have h2:=(jn (U d.counts)).2;have h3:=(jn d.cols).2;have h4:=(jn d.index).2;unfold Cz;rw [qK,qK,qK,qK];omega
theorem TL (a q:O) (h:q=a+4) (b:a<=1000000000):IntKind.u64.wrap ((a:V)+4)=(q:V):=by rw [qS];omega
theorem T0 {o:Lx} (h:J8 o=0):1<=o.bkt/\o.bkt<=64:=by
 unfold J8 vM at h;rw [qJ M] at h;split at h
 ·rename_i h2;obtain⟨-,h3,-⟩:=h2;dsimp only at h3;omega
 ·cases h
theorem NJ (a n s:O) (h:s=a+n) (b:s<=20000):DW ((a:V)+(n:V))=(s:V):=SX
theorem T1 (a n s:O) (h:s=a+n) (b:s<=20000):wrap64 ((a:V)+(n:V))=(s:V):=by rw [show(a:V)+(n:V)=((s:O):V) by omega];exact Kr _ M
theorem B4 (w:I) (a:S la) (t:TypeId):E' (w (Y a.toArray t)) ((w:O)+1) 1 w a a:=by
 refine⟨s8,λ_=>⟨_,rfl,ze _,λj u b=> ?_⟩⟩;have e:((w:O):Addr).add j=⟨w,j,none⟩:=by unfold Addr.add;split<;>simp_all
 rw [e,(F'.new w t a.toArray).cell j];simpa using b
theorem zM.Iw {j:I} {n m v:O} {A y:q'} {q d:S qn} {vs x:S la} (ln:U d=m) (D: ∀(i:O) (f:qn),d[i]? =some f-> ∃(Ai:q') (b:O),x[i]? =J (Z Ai f b)/\j8 W b0 base Ai b f) (h1:xp W base 30 1 (Z A n c) n vs) (h2:U q=n) (h3: ∀(i:O) (f:qn),q[i]? =some f-> ∃(Ai:q') (b:O),vs[i]? =J (Z Ai f b)/\j8 W b0 base Ai b f) (h0:b0<=base) (H:base<=(W:O)) (C:xp j base 30 1 (Z y (n+m) v) (n+m) (vs++x)) (h:W.grownBy j (A.map (·.block))):
  zM j b0 base y (n+m) v (q++d):=by
 have keep: ∀(l:q') (k:O) (d:qn),j8 W b0 base l k d->j8 j b0 base l k d:=λl k d w=>by
  rcases A with _|s
  ·obtain⟨o1,o2,o3⟩:=w;refine⟨o1,o2, ?_⟩;rcases o3 with o3|o3
   ·exact .inl (o3.keep λp L=>zw (h.block p.block M s8))
   ·refine .inr (zI o3 (λa P=> ?_));obtain⟨F,E,o⟩:=jV o3 a.block (by rw [P];rfl);exact h.block _ (jz o) s8
  ·obtain⟨F,E,o⟩:=jV h1 s.block rfl;have K:base<=s.block:=(h1.lt s.block rfl).1;exact w.other h0 o K (λg z B=>h.block g z (by simpa using B))
 have N:U vs=n:=by have:=h1.1;omega
 refine⟨⟨_,C,by simp [h2,ln],λi u hi=> ?_⟩,qv H h.size,h0⟩;by_cases e:i<n
 ·rw [q_ M] at hi;obtain⟨Ai,b,r,t⟩:=h3 i u hi;exact⟨Ai,b,by rw [q_ M];exact r,keep _ _ _ t⟩
 ·rw [qm M,h2] at hi;obtain⟨Ai,b,r,t⟩:=D (i-n) u hi;exact⟨Ai,b,by rw [qm M,N];exact r,keep _ _ _ t⟩
theorem NX {n3 f c1 c2 h d:O} {b g j:q'} {n m p q:qn} (h1:xp W base 5 1 (Z b c c1) c (n.map B8)) (h2:xp W base 5 1 (Z g k c2) k (m.map B8)) (h3:xp W base 5 1 (Z l n3 h) n3 (p.map B8)) (h4:xp W base 5 1 (Z j f d) f (q.map B8)):
  ∀(i:O) (a:qn),[n,m,p,q][i]? =some a-> ∃(Ai:q') (o:O),[Value.slice b c c1,Z g k c2,Z l n3 h,Z j f d][i]? =J (Z Ai a o)/\j8 W b0 base Ai o a
 |0,a,hi=>by
  obtain⟨e,r⟩:=j8.own (b0:=b0) h1;injection hi with hi
  subst hi;exact⟨b,c1,by rw [e];rfl,r⟩
 |1,a,hi=>by
  obtain⟨e,r⟩:=j8.own (b0:=b0) h2;injection hi with hi
  subst hi;exact⟨g,c2,by rw [e];rfl,r⟩
 |2,a,hi=>by
  obtain⟨e,r⟩:=j8.own (b0:=b0) h3;injection hi with hi
  subst hi;exact⟨l,h,by rw [e];rfl,r⟩
 |3,a,hi=>by
  obtain⟨e,r⟩:=j8.own (b0:=b0) h4;injection hi with hi
  subst hi;exact⟨j,d,by rw [e];rfl,r⟩
 |i+4,a,hi=>by simp at hi
theorem oA (a b c d:la) (f:a.oneCell'=true) (h:b.oneCell'=true) (g:c.oneCell'=true) (i:d.oneCell'=true): ∀u∈[a,b,c,d],u.oneCell'=true:=by
 intro u e;simp only [qL,xj,Ze] at e;rcases e with rfl|rfl|rfl|rfl<;>assumption
theorem sP (K:O): ∀(L:S qn),(∀f∈L,U f<=K)->U L.flatten<=K*U L
 |[],_=>s8
 |f::L,h=>by
  have h1:=h f (qo ..);have h2:=sP K L (λg a=>h g (qM _ a));rw [xI,qK,qf,Nat.mul_add];omega
theorem DC (o:Lx) (A:Option Addr) (c B:O) (l:S JH) (W:I) (ht:Pl W) (h:E' W B 4 A l (ji l)) (v:B<=(W:O)) (hc:U l<=c) (hm:c<=maxLen) (hok: ∀r∈l,Yj r) (hcb:J8 o=0) (hck:kF l=0) (Q':pQ o l):
  xG 36 #[.agg (Ld o),Z A l c] W (Qr 5 W (JT o l) 0):=by
 obtain⟨ck1,ck2,-⟩:=rD hck;have hbkt:=T (T0 hcb);obtain⟨i1,hi_,hy0,hy1,hy2⟩:=qA Zz;replace hi_:=T hi_;replace hy0:=T hy0;replace hy1:=T hy1;replace hy2:=T hy2;obtain⟨i2,hj,hx0,hx1,hx2⟩:=qA Pf;replace hj:=T hj;replace hx0:=T hx0;replace hx1:=T hx1;replace hx2:=T hx2;obtain⟨j0,hq,qz0,qz1,qz2⟩:=qA PH;have hcut:=T (λ(k m:O) (h1:k<=m) (h2:m<=c)=>Vo (P:=prog) 24 45 j0 4 QL hq qz1 A l c k m .i64 .i64 h1 h2);clear hq qz0 qz1 qz2;have hBa:G (r' W W (W (Y #[o.blk, .bool o.plain,o.bkt,o.data,o.par,o.chunk] 23))):=(qZ _ _).alloc (qx _) _;have HK:G (F' (W (Y #[o.blk, .bool o.plain,o.bkt,o.data,o.par,o.chunk] 23)) W 23 #[o.blk, .bool o.plain,o.bkt,o.data,o.par,o.chunk]):=F'.new _ _ _;have N':=YN o (W (Y #[o.blk, .bool o.plain,o.bkt,o.data,o.par,o.chunk] 23));rw [hcb] at N';unfold Ld at N'⊢;replace N':=T N';have cB:=T ht;have H:=T h;have HOK:=T hok;have GD:=T Q';have KRc:=T (λcY h v=>JW A c B l cY h v M);rw [hck] at KRc;have KG:=T (λcY h v=>gj o.blk false A c B l cY h v M hok Q'.tot);have hgs:sh o.blk false l=ZK o l:=rfl;rw [hgs] at KG;have HBO:=T Q'.blk;have hng0:=Q'.num;have HGS:=T Q'.grs;have hMk:G (JT o l=(vF o.plain (ZK o l) l).flatten++P5 l++YT o l++dc (Cz ⟨ZK o l,(vF o.plain (ZK o l) l).map (·.length),U (P5 l),U (YT o l)⟩)++GF (U (dc (Cz ⟨ZK o l,(vF o.plain (ZK o l) l).map (·.length),U (P5 l),U (YT o l)⟩))) 4):=rfl;unfold gz at KG;generalize ZK o l=b at*
 obtain⟨j,P'⟩: ∃j,j=U b:=⟨_,rfl⟩;rw [<-P'] at KG hng0;replace P':=T P';have z10:i' (W (Y #[o.blk, .bool o.plain,o.bkt,o.data,o.par,o.chunk] 23)) (W:O)=J (o.blk:la):=HK.cell 0;clear ht h hok Q' hcb hgs;replace hck:=T hck;replace ck2:=T ck2;go_enter func36,ntmps36
 go_wp2_with fail;generalize W (Y #[o.blk, .bool o.plain,o.bkt,o.data,o.par,o.chunk] 23)=w0 at*
 refine N'.mono ?_;rintro e w1 ⟨rfl,hB1⟩;have HB1:=T (hBa.trans (hB1.mono hBa.size));have HK1:=T (HK.below hB1 HK.lt);have KRc1:=T (KRc.out w1 (H.below (HB1.mono v)) (qv v HB1.size));clear N' hB1 z10 HK hBa KRc
 go_wp2_with fail;refine KRc1.mono ?_;rintro e w2 ⟨rfl,hB2⟩;have HB2:=T (HB1.trans (hB2.mono HB1.size));have HK2:=T (HK1.below hB2 HK1.lt);have z20:i' w2 (W:O)=J (o.blk:la):=HK2.cell 0;have KG2:=T (KG.out w2 (H.below (HB2.mono v)) (qv v HB2.size));clear KRc1 hB2 HB1 HK1 KG
 go_wp2_with fail;refine KG2.mono ?_;rintro e a ⟨L,z,rfl,O',p'⟩;have qj:=T (HB2.trans (p'.mono HB2.size));have z':=T (HK2.below p' HK2.lt);have HG3:=T (E'.zY O');clear KG2 p' HB2 HK2 z20 O';have HD:G (F' (a (Y #[Z L j z,Z none 0 0,(),()] 96)) a 96 (IT (Z L j z) (Z none 0 0) 0 0)):=F'.new _ _ _;have HB4:G (r' a a (a (Y #[Z L j z,Z none 0 0,(),()] 96))):=(qZ _ _).alloc (qx _) _;have y0:i' (a (Y #[Z L j z,Z none 0 0,(),()] 96)) (a:O)=J (Z L j z):=HD.cell 0
 go_wp2_with fail;obtain⟨d,hgD⟩: ∃g,g=(a:O):=⟨_,rfl⟩;have HJ0:G (MkJ a (a (Y #[Z L j z,Z none 0 0,(),()] 96)) d j z L 0 0 0 none none []):=⟨HB4.out,by rw [hgD];exact HD,zM.nil _ _ _ (qp _) HB4.size,qP _ _ _ _⟩
 rw [<-hgD];generalize a (Y #[Z L j z,Z none 0 0,(),()] 96)=N at*
 clear HD HB4 y0;have hgV:G ((a:O)<=d):=by rw [Hid,hgD];exact qx _
 replace hgD:=T hgD;go_loopw [9,10,39] (λv9 v10 v39 wr=> ∃(i at_ c9 c1:O) (A9 A1:Option Addr),v9=Z A9 i c9/\v10=(at_:la)/\v39=(i:la)/\i<=j/\at_<=20000/\G (at_=(b.take i).sum)/\G (MkJ a wr d j z L i c9 c1 A9 A1 (vF o.plain (b.take i) l))) (λ_ _ v39 _=>j-(intOf v39).toNat)
 case atStart=>exact⟨0,0,0,0,none,none,rfl,rfl,rfl,qp _,qp _,rfl,HJ0.out⟩
 case round=>
  clear HJ0;obtain⟨i,at_,c9,c1,A9,A1,rfl,rfl,rfl,hi,hat,HAT,D⟩:=hrel;by_cases hlt:i<j
  ·have hlt':(i:V)<(j:V):=M
   have hig:i<U b:=by rw [<-P'.out];exact hlt
   obtain⟨k1,k2,k3⟩:=B0 HBO i hig;have hgm:=HGS.out b[i] (zx hig);have htk:b.take (i+1)=b.take i++[b[i]]:=by rw [qs,qX hig];rfl
   have hfr:G (vF o.plain (b.take (i+1)) l=vF o.plain (b.take i) l++[Rv (pa false ((l.drop at_).take b[i])) o.plain]):=by rw [Hid,htk,uy,HAT.out]
   have hat2:(b.take (i+1)).sum=at_+b[i]:=by rw [htk,QE,HAT.out];simp
   rw [<-HAT.out] at k1 k2 k3;obtain⟨ad,u,hAg,-,hu,hcell⟩:=(HG3.below D.bl).at_ hlt;subst hAg;rw [qD,qX hig] at hu;generalize b[i]=n at*
   obtain rfl:Value.int .i64 (n:V)=u:=by simpa [NV] using hu
   have hbw:=pL (pa false ((l.drop at_).take n)) o.plain k2;have hBV:r' W W wr.drew:=(qj.trans (D.bl.mono qj.size)).drew;have hrl:U ((l.drop at_).take n)=n:=by rw [qh,qI];omega
   have KY:=P8 false (xo A c at_ 4) (c-at_) B ((l.drop at_).take n) wr.drew (by rw [hrl];exact((H.below (hBV.mono v)).MG M hc).ik M) (qv v hBV.size) M (λr hr=>HOK.out r (Q1 (j2 hr))) M
   rw [hrl] at KY;have U':=λ(cY:I)A c h1 h2=>Ur A (U (pa false ((l.drop at_).take n))) c (cY:O) (pa false ((l.drop at_).take n)) o.plain cY h1 h2 (qx _) k2 k3;generalize pa false ((l.drop at_).take n)=bs at*
   unfold jQ at KY;unfold Qr at U';generalize Rv bs o.plain=ws at*
   replace KY:=T KY;replace U':=T U';obtain⟨s,iv⟩: ∃s,s=at_+n:=⟨_,rfl⟩;have hct:=hcut.out at_ s M M;rw [show s-at_=n by omega] at hct
   have hs0:(0:V)<=(at_:V):=M;have hs1:(at_:V)<=(s:V):=M;have hs2:(s:V)<=(c:V):=M;have hs3:s<=20000:=M;have hat3:G (s=(b.take (i+1)).sum):=by rw [Hid,hat2,iv]
   have hwh:=T (And.intro (NJ at_ n s iv hs3) (T1 at_ n s iv hs3));have zp:i' wr ⟨W,1,none⟩=J (.bool o.plain):=(z'.below D.bl z'.lt).cell 1;have hgo:=T z'.lt;replace iv:=T iv;have hBV':=T hBV;have hszV:G ((a:O)<=(wr:O)):=D.bl.size;clear k1 k2 k3 htk hat2 hu hBV hrl hgm;obtain⟨uK,hnw⟩: ∃uK,uK=U ws:=⟨_,rfl⟩;rw [<-hnw] at hbw U';replace hnw:=T hnw;have hw1:=hwh.out.1
   go_wp2_with fail;refine zv 15 (λW'=>i' W' ⟨W,1,none⟩=J (.bool o.plain)) AL zp (λiL=> ?_)
   refine zq [0,1,2,3,4,5] (a':= ?_) ?_;refine zq [7,8] (a':= ?_) ?_;refine IA 6 rfl AL SQ (λK hK=> ?_);go_simp
   (go_at_call 34;((with_reducible refine(KY.out).mono ?_);rintro e wA ⟨Ab,cb,rfl,d'⟩);have HBA:r' W W wA:=hBV'.out.trans (d'.2.mono (show (W:O)<=(wr.drew:O) from hBV'.out.size));have KWA:=T (U'.out wA Ab cb (cB.out.below HBA cB.out.pos) d'.reads))
   refine hK _ _ (((d'.2.cell (p:=⟨W,1,none⟩) (qB hgo hszV)).trans zp)) (λiL=> ?_);clear hK K;try simp only [Act.put,qQ,qY,qV]
   refine vf 9 KWA ?_;rintro e wB ⟨Aw,cw,rfl,hfB⟩;refine⟨_,rfl,(((hfB.2.cell (p:=⟨W,1,none⟩) (qB (qB hgo hszV) d'.2.size)).trans iL)),λiL=> ?_⟩;refine zq [10,11,12,13,14] (a':= ?_) ?_;refine zV AL ?_ _;have bAB:r' (wr:O) wr wB:=((qZ (wr:O) wr).drew.trans d'.2).trans (hfB.2.mono d'.2.size);have hBB:G (r' a a wB):=D.bl.trans (bAB.mono hszV);have HLs:=T (D.ls.below bAB);have HSz:=T (qG D.sz bAB);have HDir:=T (D.dir.below bAB D.dir.lt);have HOw:=T (qi hfB.1 (show (a:O)<=(wA:O) from qv hszV d'.2.size))
   have hln:G (U ws=uK):=hnw.symm;have hc1:i+1<=maxLen:=SJ;have hc2:(i+1)*24<=140737488355328:=M;have hm1:i+1<=maxLen:=hc1;have hm2:(i+1)*8<=140737488355328:=M;have hw3:=hwh.out.2;generalize vF o.plain (b.take i) l=fs at*
   clear KY U' d' hfB HBA KWA bAB D zp iL hct hcell;have hLa:=HLs.below ((qZ _ wB).alloc (qx _) (Y #[Z Aw uK cw] 30));have hRa:=j8.below ((j8.own HOw).2) HLs.b0s HLs.bs ((qZ _ wB).alloc (qx _) (Y #[Z Aw uK cw] 30));obtain⟨⟨vs,t,cK,X⟩,y,R⟩:=hLa;replace t:=T t;replace cK:=T cK;replace X:=T X;replace y:=T y;replace R:=T R;replace hRa:=T hRa;clear HLs HOw
   go_wp2_with (first|(at_builtin;refine qF _ rfl (.tmp 59) (.tmp 61) 87 rfl a 30 i1 (Z none 0 0) 1 24 jr hi_.out hy0.out hy1.out hy2.out rfl M A9 i c9 _ rfl t.out ((wB:O)+1) _ 1 1 _ rfl (zU wB _ _) (IB rfl) hc1 hc2 y.out ?_;intro A3 c3 N ho4 w _hsq;have C:r' a a N:=zG (hBB.out.alloc hBB.out.size (Y #[Z Aw uK cw] 30)) w t.out y.out;have ck:=zM.Fv hln.out hRa.out t.out cK.out X.out R.out y.out ho4 w;have hS4:=T (Zt (HSz.out.alloc _) t.out FV w);have hD4:=T (xQ (HDir.out.alloc _) t.out FV w);have q4:i' N ⟨d,1,none⟩=J (Z A1 i c1):=hD4.out.cell 1;clear HSz HDir;replace C:=T C;replace ck:=T ck;clear w _hsq ho4 t cK X y R hRa)|(at_builtin;refine qF _ rfl (.tmp 64) (.tmp 67) 62 rfl a 3 i2 () 1 8 jj hj.out hx0.out hx1.out hx2.out rfl M A1 i c1 _ rfl (hS4.out.alloc (Y #[uK] 3)) ((N:O)+1) _ 1 1 _ rfl (zU N _ _) (IB rfl) hm1 hm2 (show (a:O)<=(N (Y #[uK] 3):O) from qv C.out.size s8) ?_;intro A2 c2 w3 O' w _hsq;have p':r' a a w3:=zG (C.out.alloc C.out.size (Y #[uK] 3)) w (hS4.out.alloc (Y #[uK] 3)) (show (a:O)<=(N (Y #[uK] 3):O) from qv C.out.size s8);have hL5:=T (zM.apart (ck.out.below ((qZ _ N).alloc (qx _) _)) (hS4.out.alloc _) FV FV (qx _) w);have hD5:=T (xQ (hD4.out.alloc _) (hS4.out.alloc _) FV w);have q5:i' w3 ⟨d,1,none⟩=J (Z A1 i c1):=hD5.out.cell 1;have f5:w3.frozen? ⟨d,1,none⟩=false:=hD5.out.frozen 1;clear ck hD4 hS4;replace O':=T O';replace p':=T p';clear w _hsq))
   have hJ:G (MkJ a (w3.setCell ⟨d,1,none⟩ (Z A2 (i+1) c2)) d j z (some ad) (i+1) c3 c2 A3 A2 (fs++[ws])):=⟨p'.setCell (p:=⟨d,1,none⟩) hgV _,hD5.zh 1 _,zM.au hL5 hD5 FV FV 1 _,by
    have hx:=jw O' hD5 FV 1 (Z A2 (i+1) c2);rw [qg,qg];simp only [jy,xB];rw [<-hnw.out];exact hx⟩
   refine⟨⟨i+1,s,c3,c2,A3,A2,rfl,rfl,by first|rfl|simp,M,hs3,hat3,by rw [Hid,hfr.out];exact hJ⟩,by simp [intOf];omega⟩
  ·obtain rfl:i=j:=M
   have hge: ¬(i:V)<(i:V):=M;have hJe:=D.out;rw [qH (by rw [<-P'.out];exact qx _)] at hJe
   have HJe:=T hJe;have HBr:=T (qj.trans (hJe.bl.mono qj.size));have KCol:=T (En A c B l wr (H.below (HBr.mono v)) (qv v HBr.size) ck1 hc hm HOK);have hco:=GD.co;unfold P5 at hco;rw [ve] at hco;have KPut:=T (λ(cY:I)A n c xs h1 h2 h3 h4 h5=>XI A n c (cY:O) xs cY h1 h2 (qx _) h3 h4 h5);obtain⟨D',hcols⟩: ∃x,x=ui l:=⟨_,rfl⟩;rw [<-hcols] at KCol hco;unfold jQ at KCol KPut;obtain⟨hh,hlc⟩: ∃n,n=U D':=⟨_,rfl⟩;rw [<-hlc] at KCol hco;replace hcols:=T hcols;replace hlc:=T hlc;have zb:i' wr ⟨W,2,none⟩=J (o.bkt:la):=(z'.below hJe.bl z'.lt).cell 2;clear hJe D
   go_wp2_with fail;refine KCol.mono ?_;rintro e w5 ⟨A5,d5,rfl,N9⟩;have HB5:=T (HBr.trans (N9.2.mono HBr.size));have HJ5:=T (HJe.fresh N9.2);have KP5:=T (KPut.out w5 A5 hh d5 D' (cB.below HB5 cB.pos) N9.reads (jC N9.1).1 (jC N9.1).2 M)
   clear KCol N9 HBr HJe
   go_wp2_with fail;refine KP5.mono ?_;rintro e cL ⟨A6,d6,rfl,hf6⟩;have HB6:=T (HB5.trans (hf6.2.mono HB5.size));have HJ6:=T (HJ5.fresh hf6.2);have HC6:=T (qi hf6.1 (show (a:O)<=(w5:O) from HJ5.bl.size))
   clear KP5 hf6 HB5 HJ5;have zb6:G (∀cY,r' cL cL cY->i' cY ⟨W,2,none⟩=J (o.bkt:la)):=λcY hV=>(z'.below (HJ6.bl.trans (hV.mono HJ6.bl.size)) z'.lt).cell 2;have hdr:r' cL cL cL.drew:=(qZ _ _).drew;have hBd:=HB6.trans (hdr.mono HB6.size);have G':=ux A c B l cL.drew (H.below (hBd.mono v)) (qv v hBd.size) ck1 ck2.out;unfold oY at G';have rs:=GD.rs;have ls:=GD.ls;have fw:=GD.fw;have ix:=GD.ix;have hbl:(bn l).1.length=(bn l).2.length:=(zH ..).symm;unfold YT at ix;rw [ve] at ix;obtain⟨I',hbkn⟩: ∃n:O,o.bkt=(n:V):=⟨o.bkt.toNat,by have:=hbkt.out.1;omega⟩
   rw [hbkn,show((I':O):V).toNat=I' from rfl] at ix
   have hbk2:=hbkt.out;rw [hbkn] at hbk2 zb6;obtain⟨bu,hbu⟩: ∃x,x=bn l:=⟨_,rfl⟩;rw [<-hbu] at G' rs ls fw ix hbl;obtain⟨bt,bl⟩:=bu;dsimp only at G' rs ls fw hbl;have KBy:=T (λcY At Al nt ct nl cl (q1:nt=U bt) (q2:nl=U bl) h1 h2 h3=>aA I' l At Al nt ct nl cl bt bl cY h1 h2 h3 M M rs ck1 M M ls M);obtain⟨N6,hixs⟩: ∃x,x=Fh I' l (bt,bl):=⟨_,rfl⟩;rw [<-hixs] at KBy ix;unfold Qr at KBy;obtain⟨ih,hlx⟩: ∃n,n=U N6:=⟨_,rfl⟩;rw [<-hlx] at KBy ix;replace hixs:=T hixs;replace hlx:=T hlx;replace hbu:=T hbu;replace hbkn:=T hbkn;replace G':=T G';replace rs:=T rs;replace ls:=T ls;replace hbl:=T hbl;clear zb hBd hdr
   go_wp2_with fail;refine zv 12 (λcY=>i' cY ⟨W,2,none⟩=J (I':la)) AL (zb6.out _ (qZ _ _).drew) (λiL=> ?_)
   refine zq [0,1,2,3,4] (a':= ?_) ?_;refine vf 5 G' ?_;rintro e w7 ⟨At,nt,ct,Al,nl,cl,⟨q1,q2⟩,rfl,ho7,hi7,Z'⟩;refine⟨_,rfl,((zb6.out _ ((qZ _ cL).drew.trans Z'))),λiL=> ?_⟩;subst q1;subst q2;have KBz:=T (KBy.out w7 At Al _ ct _ cl rfl rfl (E'.zY ho7) hi7.rows (jC ho7).1);refine vf 6 KBz ?_;rintro e w8 ⟨A8,d8,rfl,OX⟩;refine⟨_,rfl,((zb6.out _ (((qZ _ cL).drew.trans Z').trans (OX.2.mono Z'.size)))),λiL=> ?_⟩;refine zq [7,8,9,10,11] (a':= ?_) ?_;refine zV AL ?_ _;have b68:r' cL cL w8:=((qZ _ cL).drew.trans Z').trans (OX.2.mono Z'.size);have HB8:=T (HB6.trans (b68.mono HB6.size));have HJ8:=T (HJ6.fresh b68);have HC8:=T (qG HC6 b68);have KP8:=T (KPut.out w8 A8 ih d8 N6 (cB.below HB8 cB.pos) OX.reads (jC OX.1).1 (jC OX.1).2 M);clear G' KBy KBz ho7 hi7 Z' OX b68 iL zb6 HB6 HJ6 HC6
   go_wp2_with fail;refine KP8.mono ?_;rintro e w9 ⟨A9',d9,rfl,hf9⟩;have HB9:=T (HB8.trans (hf9.2.mono HB8.size));have ln:=T (HJ8.fresh hf9.2);have HC9:=T (qG HC8 hf9.2);have HI9:=T (qi hf9.1 (show (a:O)<=(w8:O) from HJ8.bl.size))
   clear KP8 hf9 HB8 HJ8 HC8;have f2:=ln.dir.frozen 2;have f3:=ln.dir.frozen 3;have g2:i' w9 ⟨d,2,none⟩=J (e' 0):=ln.dir.cell 2;have g3:i' w9 ⟨d,3,none⟩=J (e' 0):=ln.dir.cell 3
   go_wp2_with fail;have S':G (F' ((w9.setCell ⟨d,2,none⟩ (e' ((hh:V)+4))).setCell ⟨d,3,none⟩ (e' ((ih:V)+4))) d 96 (IT (Z L i z) (Z A1 i c1) (hh+4) (ih+4))):=(ln.dir.zh 2 (e' ((hh:V)+4))).zh 3 (e' ((ih:V)+4));have HM10:G (qE [d] w9 ((w9.setCell ⟨d,2,none⟩ (e' ((hh:V)+4))).setCell ⟨d,3,none⟩ (e' ((ih:V)+4)))):=((qE.refl [d] w9).zh (p:=⟨d,2,none⟩) (qy.2 rfl) _).zh (p:=⟨d,3,none⟩) (qy.2 rfl) _;clear f2 f3 g2 g3;generalize (w9.setCell ⟨d,2,none⟩ (e' ((hh:V)+4))).setCell ⟨d,3,none⟩ (e' ((ih:V)+4))=w10 at*
   have Y':=T (ln.bl.trans (HM10.below (λk hk=>by rw [qy.1 hk];exact hgV) ln.bl.size))
   have hdirne: ∀{E:TypeId} {size n' c' b':O} {A':Option Addr} {xs:S la},xp w9 b' E size (Z A' n' c') n' xs->E≠96->xp w10 b' E size (Z A' n' c') n' xs:=λho hE=>Kd ho HM10 ln.dir hE;have HS10:=T (hdirne ln.sz FV);have HC10:=T (hdirne HC9 FV);have HI10:=T (hdirne HI9 FV);have HL10:=T (ln.ls.ia HM10 ln.dir FV FV);have HB10:=T (qj.trans (Y'.mono qj.size));have M':=C3 w10 d w10 i (hh+4) (ih+4) z c1 L A1 b ((vF o.plain b l).map (·.length)) (S'.cell 0) (S'.cell 1) (S'.cell 2) (S'.cell 3) S'.lt ((HG3.below Y').more Y'.size) (E'.zY (HS10.out)) (qx _) hng0 (λx hx=>qv (HGS.out x hx) FV) (λx hx=>by
    obtain⟨f,hf,rfl⟩:=jB.1 hx;exact qv (uN HBO f hf) FV) M M
   clear hdirne;have hdl:=oa ⟨b,(vF o.plain b l).map (·.length),hh+4,ih+4⟩;dsimp only at hdl;rw [<-P'.out] at hdl;obtain⟨ds,hds⟩: ∃x,x=Cz ⟨b,(vF o.plain b l).map (·.length),hh+4,ih+4⟩:=⟨_,rfl⟩;unfold jQ at M';rw [<-hds] at M' hdl;obtain⟨ld,hld⟩: ∃n,n=U ds:=⟨_,rfl⟩;rw [<-hld] at M' hdl;replace hds:=T hds;replace hld:=T hld;replace M':=T M';refine M'.mono ?_;rintro e w11 ⟨A11,d11,rfl,Q⟩;have HB11:=T (HB10.trans (Q.2.mono HB10.size));have HBV11:=T (Y'.trans (Q.2.mono Y'.size));have HC11:=T (qG HC10 Q.2);have HI11:=T (qG HI10 Q.2);have HL11:=T (HL10.below Q.2);have KP11:=T (KPut.out w11 A11 ld d11 ds (cB.below HB11 cB.pos) Q.reads (jC Q.1).1 (jC Q.1).2 M);clear M' Q HB10 Y' HC10 HI10 HL10 HS10 S' HM10 ln HC9 HI9 HB9
   go_wp2_with fail;refine KP11.mono ?_;rintro e w12 ⟨A12,d12,rfl,J'⟩;have HB12:=T (HB11.trans (J'.2.mono HB11.size));have HBV12:=T (HBV11.trans (J'.2.mono HBV11.size));have HC12:=T (qG HC11 J'.2);have HI12:=T (qG HI11 J'.2);have HL12:=T (HL11.below J'.2);have HD12:=T (qi J'.1 HBV11.size);clear KP11 J' HB11 HBV11 HC11 HI11 HL11;obtain⟨q,hq⟩: ∃q,q=ld+4:=⟨_,rfl⟩;have X':=Vw q 4 w12 M M (by rw [show 256^4=4294967296 from by decide];omega)
   rw [show((4:O):V)=4 from rfl] at X'
   unfold Qr at X';have hwq:=TL ld q hq M;replace hq:=T hq;replace X':=T X'
   go_wp2_with fail;refine X'.mono ?_;rintro e w13 ⟨A13,d13,rfl,m'⟩;have HB13:=T (HB12.trans (m'.2.mono HB12.size));have HBV13:=T (HBV12.trans (m'.2.mono HBV12.size));have HC13:=qG HC12 m'.2;have HI13:=qG HI12 m'.2;have HD13:=qG HD12 m'.2;have HL13:=HL12.below m'.2;have HF13:=qi m'.1 HBV12.size;rw [show(GF q 4).length=4 from Qa q 4] at HF13⊢
   have u':r' w13 w13 (w13 (Y #[Z A6 (hh+4) d6,Z A9' (ih+4) d9,Z A12 (ld+4) d12,Z A13 4 d13] 30)):=(qZ _ _).alloc (qx _) _;have hrw:=T (NX (b0:=0) (qG HC13 u') (qG HI13 u') (qG HD13 u') (qG HF13 u'));have hfs:=sP 40000 (vF o.plain b l) (uN HBO);rw [HL13.len] at hfs;have hfs:=T hfs;obtain⟨⟨vs,t,cK,X⟩,y,R⟩:=HL13.below u';replace t:=T t;replace cK:=T cK;replace X:=T X;replace y:=T y;replace R:=T R;have hc1:i+4<=maxLen:=SJ;have hc2:(i+4)*24<=140737488355328:=M;have HBa13:=T (HBV13.trans (u'.mono HBV13.size));clear X' m' HB12 HBV12 HC12 HI12 HD12 HL12 HC13 HI13 HD13 HL13 HF13 u' hwq
   go_wp2_with (at_builtin;refine qF _ rfl (.tmp 107) (.tmp 112) 87 rfl a 30 i1 (Z none 0 0) 1 24 jr hi_ hy0 hy1 hy2 rfl M A9 i c9 _ rfl t ((w13:O)+1) _ 4 4 _ rfl (B4 w13 [Z A6 (hh+4) d6,Z A9' (ih+4) d9,Z A12 (ld+4) d12,Z A13 4 d13] _) (oA _ _ _ _ rfl rfl rfl rfl) hc1 hc2 y ?_;intro A3 c3 N ho4 w _hsq;have C:r' a a N:=zG HBa13 w t y.out;have ck:=zM.Iw rfl hrw t cK X R y ho4 w;replace C:=T C;replace ck:=T ck;clear w _hsq ho4 t cK X y R hrw HBa13)
   have hcB:P5 l=dc D':=by unfold P5;rw [<-hcols.out]
   have hiB:YT o l=dc N6:=by unfold YT;rw [<-hbu.out,hbkn.out,show((I':O):V).toNat=I' from rfl,<-hixs.out]
   have hM:=hMk.out;rw [hcB,hiB,show(dc D').length=hh+4 by rw [ve,<-hlc.out],show(dc N6).length=ih+4 by rw [ve,<-hlx.out],<-hds.out,show(dc ds).length=q by rw [ve,<-hld.out,<-hq.out]] at hM
   have hPe:JT o l=(vF o.plain b l++[dc D',dc N6,dc ds,GF q 4]).flatten:=by
    rw [hM,xM];simp only [xI,List.flatten_nil,jx,jY]
   have hPl:(vF o.plain b l++[dc D',dc N6,dc ds,GF q 4]).flatten.length<=1000000000:=by
    have h1:=hfs.out;have h2:=hq.out;rw [xM,qK];simp only [xI,List.flatten_nil,jx,qK];rw [ve,ve,ve,Qa,<-hlc.out,<-hlx.out,<-hld.out];omega
   generalize vF o.plain b l++[dc D',dc N6,dc ds,GF q 4]=P at*
   have hPn:U P=i+4:=ck.len;have hfl:=uw P (i+4);rw [qH M] at hfl;have iv:=uT (k:=i+4) ck.out.XB (qx _) (qx _);rw [qH M] at iv;have htt:La (P.map (List.map B8))=U P.flatten:=by unfold La;rw [hfl,zH]
   have KA:=uU A3 (i+4) c3 _ N M (by rw [htt];exact hPl) iv
   rw [htt,hfl] at KA;obtain⟨F,hFe⟩: ∃F,F=P.flatten:=⟨_,rfl⟩;rw [<-hFe] at KA hPe;replace KA:=T KA;replace hPe:=T hPe;replace hFe:=T hFe;clear hfl iv htt hPl hPn hM hcB hiB;refine KA.mono ?_;rintro e w15 ⟨A15,c15,rfl,ho15,hB15⟩;have HF:G (yG W w15 5 A15 F c15 (F.map B8)):=⟨qi ho15 (qv qj.size C.size),qj.trans ((C.trans (hB15.mono C.size)).mono qj.size)⟩;clear KA ho15 hB15
   go_wp2_with fail
   go_ret2;rw [hPe.out];exact⟨A15,c15,rfl,HF.out⟩
theorem T2 (k:O) (h:k<256):B8 (UInt8.ofNat k)=gR (k:V):=by
 unfold B8;have e:(UInt8.ofNat k).toNat=k:=SZ;rw [e]
theorem NY (o:Lx) (n:O) (p:V) (g:O) (W:I) (ht:Pl W) (R:F' W g 76 (h3A o (n:V) p)) (h1:0<=o.blk/\o.blk<=65535) (h2:0<=o.chunk/\o.chunk<=65535) (h3:0<=o.bkt/\o.bkt<=255) (h4:0<=o.data/\o.data<=255) (h5:0<=o.par/\o.par<=255) (hn:n<4294967296):
  xG 70 #[mJ g] W (jQ 5 W 21 ((Uu o n o.plain).map B8)):=by
 obtain⟨bk,H,kk,dd,qq,cc⟩:=o;dsimp only at h1 h2 h3 h4 h5;obtain⟨f,rfl⟩: ∃f:O,bk=(f:V):=⟨bk.toNat,M⟩;obtain⟨a,rfl⟩: ∃a:O,kk=(a:V):=⟨kk.toNat,M⟩;obtain⟨d,rfl⟩: ∃a:O,dd=(a:V):=⟨dd.toNat,M⟩;obtain⟨c,rfl⟩: ∃a:O,qq=(a:V):=⟨qq.toNat,M⟩;obtain⟨i,rfl⟩: ∃a:O,cc=(a:V):=⟨cc.toNat,M⟩;unfold h3A at R;unfold Uu;dsimp only at R⊢;rw [show((f:O):V).toNat=f from rfl,show((a:O):V).toNat=a from rfl,show((d:O):V).toNat=d from rfl,show((c:O):V).toNat=c from rfl,show((i:O):V).toNat=i from rfl];have HT:=T ht;have HK:=T R;have KM:=T (CT 3 W M M);rw [show _l 3=AZ 3 from rfl,show((3:O):V)=3 from rfl] at KM;have z:=λcY=>Vw i 2 cY M M (by rw [show 256^2=65536 from by decide];omega);have w:=λcY=>Vw f 2 cY M M (by rw [show 256^2=65536 from by decide];omega);have u:=λcY=>Vw n 4 cY M M (by rw [show 256^4=4294967296 from by decide];omega);rw [show((2:O):V)=2 from rfl] at z w;rw [show((4:O):V)=4 from rfl] at u;unfold Qr at z w u;rw [show(GF i 2).length=2 from Qa i 2] at z;rw [show(GF f 2).length=2 from Qa f 2] at w;rw [show(GF n 4).length=4 from Qa n 4] at u;replace z:=λcY=>T (z cY);replace w:=λcY=>T (w cY);replace u:=λcY=>T (u cY);have hu1:IntKind.u64.wrap (i:V)=(i:V):=by rw [qS];omega
 have Y':IntKind.u64.wrap (f:V)=(f:V):=by rw [qS];omega
 have hu3:IntKind.u64.wrap (n:V)=(n:V):=by rw [qS];omega
 have v1:IntKind.u8.wrap (a:V)=(a:V):=by rw [va];omega
 have v2:IntKind.u8.wrap (d:V)=(d:V):=by rw [va];omega
 have v3:IntKind.u8.wrap (c:V)=(c:V):=by rw [va];omega
 clear ht R;obtain⟨k,t⟩: ∃k:V,B8 (C1 H)=gR k:=⟨_,rfl⟩;have X':G ([C1 H,UInt8.ofNat a,UInt8.ofNat d,UInt8.ofNat c].map B8=[gR k,gR (a:V),gR (d:V),gR (c:V)]):=by
  rw [Hid,jy,jy,jy,jy,xB,T2 a M,T2 d M,T2 c M,t]
 generalize iL:[C1 H,UInt8.ofNat a,UInt8.ofNat d,UInt8.ofNat c]=hh at*;have d':U hh=4:=by rw [<-iL];rfl
 replace iL:=T iL;replace d':=T d';go_in;go_wp2_with fail;refine KM.mono ?_;rintro e w1 ⟨A1,c1,rfl,J',cB⟩;have ck:=T cB;have F:=T (HK.below cB HK.lt);have D':=T (E'.zY J');have z1:i' w1 ⟨g,1,none⟩=J (.bool H):=F.cell 1;have z5:i' w1 ⟨g,5,none⟩=J (i:la):=F.cell 5;clear J' cB;cases H
 (have q:Value.int .u8 0=gR k:=t;replace q:=T q;replace t:=T t;go_wp2_with fail;rw [q.out];clear q)
 rotate_left
 (have q:Value.int .u8 1=gR k:=t;replace q:=T q;replace t:=T t;go_wp2_with fail;rw [q.out];clear q)
 all_goals
  refine(z w1).out.mono ?_;rintro e w2 ⟨A2,c2,rfl,v⟩;have p':=T (ck.trans (v.2.mono ck.size));have N:=T (F.below v.2 F.lt);have N9:=T ((D'.below v.2).more v.2.size);have N6:=T v.reads;have z0:i' w2 g=J (f:la):=N.cell 0;clear v z1 z5;go_wp2_with fail;refine(w w2).out.mono ?_;rintro e w3 ⟨A3,c3,rfl,r⟩;have m':=T (p'.trans (r.2.mono p'.size));have cK:=T (N.below r.2 N.lt);have I':=T ((N9.below r.2).more r.2.size);have O':=T ((N6.below r.2).more r.2.size);have OX:=T r.reads;have z6:i' w3 ⟨g,6,none⟩=J (n:la):=cK.cell 6;clear r z0;go_wp2_with fail;refine(u w3).out.mono ?_;rintro e s ⟨A4,c4,rfl,j⟩;have C:=T (m'.trans (j.2.mono m'.size));have y:=T (cK.below j.2 cK.lt);have z':=T ((I'.below j.2).more j.2.size);have S':=T ((O'.below j.2).more j.2.size);have M':=T ((OX.below j.2).more j.2.size);have N':=T j.reads;clear j z6;have D:G (∀m,r' s s m->i' m ⟨g,2,none⟩=J (a:la)/\i' m ⟨g,3,none⟩=J (d:la)/\i' m ⟨g,4,none⟩=J (c:la)):=λm hW=>⟨(hW.cell (p:=⟨g,2,none⟩) y.lt).trans (y.cell 2),(hW.cell (p:=⟨g,3,none⟩) y.lt).trans (y.cell 3),(hW.cell (p:=⟨g,4,none⟩) y.lt).trans (y.cell 4)⟩;go_wp2_with fail;refine zv 28 (λm=>i' m ⟨g,2,none⟩=J (a:la)/\i' m ⟨g,3,none⟩=J (d:la)/\i' m ⟨g,4,none⟩=J (c:la)) AL (D _ (qZ _ _).drew) (λP=> ?_);generalize x:s.drew=b at*;have b4:r' s s b:=by rw [<-x];exact(qZ _ s).drew
  have qj:E' b b 1 A1 5 ((AZ 3).map B8):=by rw [<-x];exact z'.out
  have Q:E' b b 1 A2 2 ((GF i 2).map B8):=by rw [<-x];exact S'.out
  have cL:E' b b 1 A3 2 ((GF f 2).map B8):=by rw [<-x];exact M'.out
  have ih:E' b b 1 A4 4 ((GF n 4).map B8):=by rw [<-x];exact N'.out
  clear x;refine zq [0,1,2,3,4,5] (a':= ?_) ?_;refine zq [6,7,8,9,10,11] (a':= ?_) ?_;refine zq [12,13,14,15,16,17] (a':= ?_) ?_;refine zq [18,19,21,22,23] (a':= ?_) ?_;have l:r' b b (b (Y #[gR k,gR (a:V),gR (d:V),gR (c:V)] 5)):=j1 _;have X:=b4.trans (l.mono b4.size);have kX:E' (b (Y #[gR k,gR (a:V),gR (d:V),gR (c:V)] 5)) (b (Y #[gR k,gR (a:V),gR (d:V),gR (c:V)] 5)).heap.size 1 b 4 (hh.map B8):=by
   rw [X'.out];exact(B4 b [gR k,gR (a:V),gR (d:V),gR (c:V)] 5).more s8
  replace qj:=(qj.below l).more l.size;replace Q:=(Q.below l).more l.size;replace cL:=(cL.below l).more l.size;replace ih:=(ih.below l).more l.size;generalize hgx:(b:O)=gX at*;refine IA 20 rfl AL SQ (λK h=> ?_);go_simp;skip;refine h _ _ ((D _ X)) (λP=>xb ?_);clear h K;generalize Z':b (Y #[gR k,gR (a:V),gR (d:V),gR (c:V)] 5)=uK at*;have P':r' uK uK (uK.alloc (Y #[Z A1 5 c1,Z gX 4 4,Z A2 2 c2,Z A3 2 c3,Z A4 4 c4] 30)):=j1 _;have L:=X.trans (P'.mono X.size);have iv:=T (EW uK A1 gX A2 A3 A4 5 4 2 2 4 c1 4 c2 c3 c4 (AZ 3) hh (GF i 2) (GF f 2) (GF n 4) qj kX Q cL ih M);unfold jQ at iv;obtain⟨ln,B⟩:=zn (AZ 3++hh++GF i 2++GF f 2++GF n 4);have U':U ln=17:=by
   rw [B,qK,qK,qK,qK,Qa,Qa,Qa,d'.out];rfl
  rw [<-B,U'] at iv;replace B:=T B;refine IA 24 rfl AL SQ (λK h=> ?_);go_simp;skip;refine h _ _ ((D _ L)) (λP=>xb ?_);clear h K;refine IA 25 rfl AL SQ (λK h=> ?_);go_simp
  (go_at_call 30;((with_reducible refine(iv.out).mono ?_);rintro e wE ⟨A9,c9,rfl,E⟩);have A:=L.trans (E.2.mono L.size);have KP:=T (XI A9 17 c9 wE ln wE (HT.out.below (C.out.trans (A.mono C.out.size)) HT.out.pos) E.reads (qx _) (jC E.1).1 (jC E.1).2 M))
  refine h _ _ ((D _ A)) (λP=>xb ?_);clear h K;unfold jQ at KP;refine IA 26 rfl AL SQ (λK h=> ?_);go_simp
  (go_at_call 35;((with_reducible refine(KP.out).mono ?_);rintro e wP ⟨Q',G',rfl,u'⟩);have b8:=A.trans (u'.2.mono A.size))
  refine h _ _ ((D _ b8)) (λP=>xb ?_);clear h K;refine zq [27] (a':= ?_) ?_;refine zV AL ?_ _;have HF:G (yG s wP 5 Q' 21 G' ((dc ln).map B8)):=⟨qi u'.1 A.size,b8⟩;clear iv KP u' E l P' b4 X L A b8 qj kX Q cL ih;go_wp2;go_ret;rw [<-B.out];exact⟨Q',G',rfl,qi HF.out.1 C.size,C.trans (HF.out.2.mono C.size)⟩
theorem oe {l:S JH} (h:kF l≠0):kF l=6:=by
 revert h;unfold kF;split<;>simp
theorem IW (h:vM 2 o=0):J8 o=0/\16<=o.blk/\o.blk<=32768/\1<=o.bkt/\o.bkt<=64:=by
 unfold vM at h;rw [qJ M] at h;split at h
 ·rename_i h2;unfold J8 vM;dsimp only;rw [qJ M,qk M];omega
 ·cases h
theorem Is (h:vM 3 o=0):J8 o=0/\16<=o.blk/\o.blk<=32768/\1<=o.bkt/\o.bkt<=64/\1<=o.data/\o.data<=255/\0<=o.par/\o.par<=255/\1<=o.chunk/\o.chunk<=4096:=by
 unfold vM at h;rw [qJ M] at h;split at h
 ·rename_i h2;unfold J8 vM;dsimp only;rw [qJ M,qk M];omega
 ·cases h
theorem U4 (o:Lx) (A:q') (c B:O) (l:S JH) (W:I) (h:E' W B 4 A l (ji l)) (d:B<=(W:O)) (j:U l<=1000000000) (k:J8 o=0) (i:kF l≠0):
  xG 36 #[.agg (Ld o),Z A l c] W λe r=>e=t' (BA #[z8,e' 6])/\r' W W r:=by
 have g:G (r' W W (W (Y #[o.blk, .bool o.plain,o.bkt,o.data,o.par,o.chunk] 23))):=j1 _;have a:=YN o (W (Y #[o.blk, .bool o.plain,o.bkt,o.data,o.par,o.chunk] 23));rw [k] at a;unfold Ld at a⊢;replace a:=T a;have H:=T h;have f:=T (λv h d=>JW A c B l v h d j);rw [oe i] at f;clear h i k j;go_in;go_wp2_with fail;generalize W (Y #[o.blk, .bool o.plain,o.bkt,o.data,o.par,o.chunk] 23)=t at*;refine zC a ?_;intro s m;have b:=T (g.trans (m.mono g.size));have p:=T (f s (H.below (b.mono d)) (qv d b.size));clear m;go_wp2_with fail;refine zC p ?_;intro u n;have q:=T (b.trans (n.mono b.size));clear n;go_wp2;go_ret2;exact⟨rfl,q⟩
def Pj (o:Lx) (l:S JH):V×qn:=if vM 2 o≠0 then(vM 2 o,[]) else if kF l≠0 then(6,[]) else(0,ky o l)
theorem rL (o:Lx) (A:Option Addr) (c B:O) (l:S JH) (W:I) (ht:Pl W) (h:E' W B 4 A l (ji l)) (p:B<=(W:O)) (hl:U l<=1000000000) (hc:U l<=c) (hm:c<=maxLen) (hd: -9223372036854775808<=o.data/\o.data<=9223372036854775807) (Q:kF l=0-> ∀r∈l,Yj r)
  (L:vM 2 o=0->kF l=0->pQ o l/\U (JT o l)<=999999000):
  xG 19 #[.agg (Ld o),Z A l c] W (Jf W (Pj o l)):=by
 obtain⟨R,f⟩: ∃R,R=Pj o l:=⟨_,rfl⟩;rw [<-f];unfold Pj at f;have k:G (r' W W (W (Y #[o.blk, .bool o.plain,o.bkt,o.data,o.par,o.chunk] 23))):=(qZ _ _).alloc (qx _) _;have q:G (F' (W (Y #[o.blk, .bool o.plain,o.bkt,o.data,o.par,o.chunk] 23)) W 23 #[o.blk, .bool o.plain,o.bkt,o.data,o.par,o.chunk]):=F'.new _ _ _;have g:=T (JX 2 o.blk o.bkt o.data o.par o.chunk o.plain (W (Y #[o.blk, .bool o.plain,o.bkt,o.data,o.par,o.chunk] 23)) hd);rw [VT 2 o.blk o.bkt o.data o.par o.chunk o.plain] at g;rw [show(⟨o.blk,o.plain,o.bkt,o.data,o.par,o.chunk⟩:Lx)=o from rfl] at g
 have H:=T h;have uK:=T ht;clear h ht;by_cases h1:vM 2 o=0
 case neg=>
  have cB:G (R=(vM 2 o,[])):=by rw [Hid,f,qk h1]
  unfold Ld;generalize vM 2 o=E at*
  have OX:(E==0)=false:=by simpa using h1
  have N9:(E !=0)=true:=by simpa using h1
  clear f L q Q;go_enter func19,ntmps19
  go_wp2_with fail;refine g.mono ?_;rintro e b ⟨rfl,i⟩;have d:=T (k.trans (i.mono k.size));clear g i
  go_wp2_with fail
  go_ret2;unfold Jf;rw [cB.out];exact⟨none,0,rfl,qP _ _ _ _,d.out⟩
 rw [qJ (by simpa using h1)] at f
 obtain⟨N,qj,iv,k3,cK⟩:=IW h1;by_cases h2:kF l=0
 focus
  rw [qJ (by simpa using h2)] at f
  have M':=T (Q h2);clear Q;obtain⟨D',J'⟩:=L h1 h2;have j:=T (λcY ht h p=>DC o A c B l cY ht h p hc hm M' N h2 D');have u:=T (λcY ht=>NQ o cY ht qj iv k3 cK);have z':ky o l=dI o++JT o l:=rfl;rw [z'] at f;unfold Ld at j u⊢;rw [h1] at g;unfold Qr at j;unfold jQ at u;have d':U (dI o)=U (AZ 2++kD o.blk.toNat++[C1 o.plain]++kD o.bkt.toNat)+4:=by unfold dI;rw [ve]
  rw [<-d'] at u;have G':U (dI o)<=100:=by
   rw [d'];have O':=(jn o.blk.toNat).2;have N':=(jn o.bkt.toNat).2;simp only [qK,qf,zF];have:U (AZ 2)=5:=rfl;omega
  generalize JT o l=mb at*
  generalize dI o=u' at*
  clear L h1 h2 N qj iv k3 cK D' z' d';obtain⟨lm,y⟩: ∃n,n=U mb:=⟨_,rfl⟩;obtain⟨lh,z⟩: ∃n,n=U u':=⟨_,rfl⟩;rw [<-y] at j J';rw [<-z] at u G';replace y:=T y;replace z:=T z;replace f:=T f;go_enter func19,ntmps19
  go_wp2_with fail;generalize W (Y #[o.blk, .bool o.plain,o.bkt,o.data,o.par,o.chunk] 23)=w0 at*
  refine g.mono ?_;rintro e b ⟨rfl,i⟩;have d:=T (k.trans (i.mono k.size));have a:=T (q.below i q.lt);have x:=T (j.out b (uK.below d uK.pos) (H.below (d.mono p)) (qv p d.size))
 rotate_left
 focus
  have cB:G (R=(6,[])):=by rw [Hid,f,qk h2]
  have j:=T (λcY h p=>U4 o A c B l cY h p hl N h2);unfold Ld at j⊢;rw [h1] at g;clear f L Q h1 h2 N qj iv k3 cK;go_enter func19,ntmps19
  go_wp2_with fail;generalize W (Y #[o.blk, .bool o.plain,o.bkt,o.data,o.par,o.chunk] 23)=w0 at*
  refine g.mono ?_;rintro e b ⟨rfl,i⟩;have d:=T (k.trans (i.mono k.size));have a:=q.below i q.lt;have x:=T (j.out b (H.below (d.mono p)) (qv p d.size))
 rotate_left
 all_goals
  have ln:i' b (W:O)=J (o.blk:la):=a.cell 0;have C:i' b ⟨W,1,none⟩=J (.bool o.plain):=a.cell 1;have F:i' b ⟨W,2,none⟩=J (o.bkt:la):=a.cell 2;have D:i' b ⟨W,3,none⟩=J (o.data:la):=a.cell 3;have ih:i' b ⟨W,4,none⟩=J (o.par:la):=a.cell 4;have hh:i' b ⟨W,5,none⟩=J (o.chunk:la):=a.cell 5
 ·clear g i j q k
  go_wp2_with fail;refine x.mono ?_;rintro e m ⟨A2,c2,rfl,cL⟩;have t:=T (d.trans (cL.2.mono d.size));have s:=a.below cL.2 a.lt;have p':=T (cL.reads);have iL:=T (u.out m (uK.below t uK.pos));clear x cL ln C F D ih hh u;have ln:i' m (W:O)=J (o.blk:la):=s.cell 0;have C:i' m ⟨W,1,none⟩=J (.bool o.plain):=s.cell 1;have F:i' m ⟨W,2,none⟩=J (o.bkt:la):=s.cell 2;have D:i' m ⟨W,3,none⟩=J (o.data:la):=s.cell 3;have ih:i' m ⟨W,4,none⟩=J (o.par:la):=s.cell 4;have hh:i' m ⟨W,5,none⟩=J (o.chunk:la):=s.cell 5;clear a s d
  go_wp2_with fail;refine iL.mono ?_;rintro e K ⟨A3,c3,rfl,w⟩;have ck:=T (t.trans (w.2.mono t.size));have hW:r' K K (K.alloc (Y #[Z A3 lh c3,Z A2 lm c2] 30)):=(qZ _ _).alloc (qx _) _;have v:=Yz K A3 A2 lh lm c3 c2 u' mb (w.reads) ((p'.below w.2).more w.2.size) M
  have P:=T (ck.trans (hW.mono ck.size));unfold jQ at v;rw [qK,<-z.out,<-y.out] at v;replace v:=T v;clear iL w ln C F D ih hh p' t hW
  go_wp2_with fail;refine v.mono ?_;rintro e w5 ⟨A5,c5,rfl,X⟩;have N6:=T (P.trans (X.2.mono P.size));have I':=T (qi X.1 (show (W:O)<=_ from P.size))
  clear v X P ck
  go_wp2_with fail
  go_ret2;unfold Jf;rw [f.out];dsimp only;rw [qK,<-z.out,<-y.out];exact⟨A5,c5,rfl,I'.out,N6.out⟩
 ·clear g i j a q k
  go_wp2_with fail;refine x.mono ?_;rintro e m ⟨rfl,m'⟩;have t:=T (d.trans (m'.mono d.size));clear x m' d ln C F D ih hh
  go_wp2_with fail
  go_ret2;unfold Jf;rw [cB.out];exact⟨none,0,rfl,qP _ _ _ _,t.out⟩
theorem B7 (o:Lx) (n:O) (p:Bool):U (Uu o n p)=21:=by
 unfold Uu;rw [ve,qK,qK,qK,qK,Qa,Qa,Qa];rfl
theorem aE (o:Lx) (n:O) (p:V) (g:O) (A:Option Addr) (m c:O) (a:S AB) (W:I) (ht:Pl W) (i:F' W g 76 (h3A o (n:V) p)) (h:E' W W 1 A m (a.map B8)) (Q:m<=900000000) (h1:0<=o.blk/\o.blk<=65535) (h2:0<=o.chunk/\o.chunk<=65535) (h3:0<=o.bkt/\o.bkt<=255) (h4:0<=o.data/\o.data<=255) (h5:0<=o.par/\o.par<=255) (L:n<4294967296):
  xG 39 #[mJ g,Z A m c] W (jQ 5 W (42+m) ((dL o n a).map B8)):=by
 have t:U a=m:=h.len;have l:=T (λX N i=>NY o n p g X (ht.below N ht.pos) i h1 h2 h3 h4 h5 L);unfold jQ at l;have q:U (dL o n a)=42+m:=by
  unfold dL;rw [qK,qK,B7,t];omega
 have s:dL o n a=Uu o n o.plain++a++Uu o n o.plain:=rfl;have F:=B7 o n o.plain;generalize dL o n a=ar at*
 generalize Uu o n o.plain=D at*
 have y:=T i;have uK:=T h;have P:=T ht;have B:=T (l.out W (qZ _ _) i);replace q:=T q;replace s:=T s;replace t:=T t;replace F:=T F;clear i h ht;go_enter func39,ntmps39
 go_wp2_with fail;refine B.mono ?_;rintro e hh ⟨C,c1,rfl,d⟩;have w:=T d.2;have x:=T (l.out hh d.2 (y.below d.2 y.lt));have z:=T d.reads;clear B d
 go_wp2_with fail;refine x.mono ?_;rintro e k ⟨E,c2,rfl,f⟩;have j:=T (w.trans (f.2.mono w.size));have b:=Xe k C A E 21 m 21 c1 c c2 D a D ((z.below f.2).more f.2.size) ((uK.below j).more j.size) f.reads M
 rw [<-s.out,q.out] at b;have v:r' k k (k.alloc (Y #[Z C 21 c1,Z A m c,Z E 21 c2] 30)):=(qZ _ _).alloc (qx _) _;have r:=T (j.trans (v.mono j.size));unfold jQ at b;replace b:=T b;clear x f z v
 go_wp2_with fail;refine b.mono ?_;rintro e R ⟨H,ln,rfl,u⟩;have ih:=T (qi u.1 r.size);have K:=T (r.trans (u.2.mono r.size));clear b u
 go_wp2_with fail;go_ret;exact⟨H,ln,rfl,ih.out,K.out⟩
def Px (o:Lx) (l:S JH):V×qn:=if vM 3 o≠0 then(vM 3 o,[]) else if kF l≠0 then(6,[]) else(0,kQ o l)
theorem h_ (o:Lx) (A:Option Addr) (c B:O) (l:S JH) (W:I) (ht:Pl W) (h:E' W B 4 A l (ji l)) (p:B<=(W:O)) (hl:U l<=1000000000) (hc:U l<=c) (hm:c<=maxLen) (hd: -9223372036854775808<=o.data/\o.data<=9223372036854775807) (iv:kF l=0-> ∀r∈l,Yj r)
  (cL:vM 3 o=0->kF l=0->pQ o l/\Sb o (U (JT o l))=0):
  xG 20 #[.agg (Ld o),Z A l c] W (Jf W (Px o l)):=by
 obtain⟨R,f⟩: ∃R,R=Px o l:=⟨_,rfl⟩;rw [<-f];unfold Px at f;have q:G (r' W W (W (Y #[o.blk, .bool o.plain,o.bkt,o.data,o.par,o.chunk] 23))):=(qZ _ _).alloc (qx _) _;have s:G (F' (W (Y #[o.blk, .bool o.plain,o.bkt,o.data,o.par,o.chunk] 23)) W 23 #[o.blk, .bool o.plain,o.bkt,o.data,o.par,o.chunk]):=F'.new _ _ _;have k:=T (JX 3 o.blk o.bkt o.data o.par o.chunk o.plain (W (Y #[o.blk, .bool o.plain,o.bkt,o.data,o.par,o.chunk] 23)) hd);rw [VT 3 o.blk o.bkt o.data o.par o.chunk o.plain] at k;rw [show(⟨o.blk,o.plain,o.bkt,o.data,o.par,o.chunk⟩:Lx)=o from rfl] at k
 have H:=T h;have u:=T ht;clear h ht;by_cases h1:vM 3 o=0
 case neg=>
  have HR:G (R=(vM 3 o,[])):=by rw [Hid,f,qk h1]
  unfold Ld;generalize vM 3 o=E at*
  have Q':(E==0)=false:=by simpa using h1
  have O':(E !=0)=true:=by simpa using h1
  clear f cL s iv;go_enter func20,ntmps20
  go_wp2_with fail;refine k.mono ?_;rintro e b ⟨rfl,j⟩;have d:=T (q.trans (j.mono q.size));clear k j
  go_wp2_with fail
  go_ret2;unfold Jf;rw [HR.out];exact⟨none,0,rfl,qP _ _ _ _,d.out⟩
 rw [qJ (by simpa using h1)] at f
 obtain⟨Q,k1,k2,k3,k4,k5,k6,k7,k8,k9,k10⟩:=Is h1;by_cases h2:kF l=0
 focus
  rw [qJ (by simpa using h2)] at f
  have N9:=T (iv h2);clear iv;obtain⟨N6,ln⟩:=cL h1 h2;have m:=T (λcY ht h p=>DC o A c B l cY ht h p hc hm N9 Q h2 N6);have I':kQ o l=dL o (U (JT o l)) (R_ o.data.toNat o.par.toNat o.chunk.toNat (JT o l)):=rfl;rw [I'] at f;unfold Sb at ln;obtain⟨ih,L,uK,ck,e2,e3,hv,D⟩:=k_ ln;unfold Ld at m⊢;rw [h1] at k;unfold Qr at m;generalize JT o l=mb at*
  obtain⟨y,p'⟩: ∃n,n=U mb:=⟨_,rfl⟩;rw [<-p'] at m D f ln hv;have S':=D.n2;have hT:=D.t2;have cK:=T (λcY A c ht hr h1 h2=>Iy ih L uK y _ _ _ _ _ A c mb cY D ht hr h1 h2);rw [<-ck,<-e2,<-e3] at cK;rw [ck,e2,e3,show((ih:O):V).toNat=ih from rfl,show((L:O):V).toNat=L from rfl,show((uK:O):V).toNat=uK from rfl] at f
  unfold U8 at cK;generalize R_ ih L uK mb=lv at*
  generalize G3 ih L uK y=qj at*
  have KA:=T (λcY g A c ht hb h hn=>aE o y 0 g A qj c lv cY ht hb h M M M M M M hn);unfold jQ h3A at KA;replace p':=T p';replace f:=T f;replace ck:=T ck;replace e2:=T e2;replace e3:=T e3;replace hv:=T hv;replace ln:=T ln;have P':=T D;clear cL h1 h2 Q k1 k2 k3 k4 k5 k6 k7 k8 k9 k10 N6 I' D;go_enter func20,ntmps20
  go_wp2_with fail;generalize W (Y #[o.blk, .bool o.plain,o.bkt,o.data,o.par,o.chunk] 23)=w0 at*
  refine k.mono ?_;rintro e b ⟨rfl,j⟩;have d:=T (q.trans (j.mono q.size));have a:=T (s.below j s.lt);have N:=T (m.out b (u.below d u.pos) (H.below (d.mono p)) (qv p d.size))
 rotate_left
 focus
  have HR:G (R=(6,[])):=by rw [Hid,f,qk h2]
  have m:=T (λcY h p=>U4 o A c B l cY h p hl Q h2);unfold Ld at m⊢;rw [h1] at k;clear f cL iv h1 h2 Q k1 k2 k3 k4 k5 k6 k7 k8 k9 k10;go_enter func20,ntmps20
  go_wp2_with fail;generalize W (Y #[o.blk, .bool o.plain,o.bkt,o.data,o.par,o.chunk] 23)=w0 at*
  refine k.mono ?_;rintro e b ⟨rfl,j⟩;have d:=T (q.trans (j.mono q.size));have a:=s.below j s.lt;have N:=T (m.out b (H.below (d.mono p)) (qv p d.size))
 rotate_left
 all_goals
  have cB:i' b (W:O)=J (o.blk:la):=a.cell 0;have X:i' b ⟨W,1,none⟩=J (.bool o.plain):=a.cell 1;have P:i' b ⟨W,2,none⟩=J (o.bkt:la):=a.cell 2;have C:i' b ⟨W,3,none⟩=J (o.data:la):=a.cell 3;have w:i' b ⟨W,4,none⟩=J (o.par:la):=a.cell 4;have x:i' b ⟨W,5,none⟩=J (o.chunk:la):=a.cell 5
 ·clear k j m s q
  go_wp2_with fail;refine N.mono ?_;rintro e hh ⟨A2,c2,rfl,v⟩;have F:=T (d.trans (v.2.mono d.size));have z:=T (a.below v.2 a.lt);have J':=T (cK.out hh A2 c2 (u.below F u.pos) v.reads (jC v.1).1 (jC v.1).2);clear N v cB X P C w x cK a d;have C:i' hh ⟨W,3,none⟩=J (o.data:la):=z.cell 3;have w:i' hh ⟨W,4,none⟩=J (o.par:la):=z.cell 4;have x:i' hh ⟨W,5,none⟩=J (o.chunk:la):=z.cell 5
  go_wp2_with fail;refine J'.mono ?_;rintro e i ⟨A3,c3,rfl,d'⟩;have u':=T (F.trans (d'.2.mono F.size));have t:=z.below d'.2 z.lt;have z':=T d'.reads;clear J' d' C w x F;have cB:i' i (W:O)=J (o.blk:la):=t.cell 0;have X:i' i ⟨W,1,none⟩=J (.bool o.plain):=t.cell 1;have P:i' i ⟨W,2,none⟩=J (o.bkt:la):=t.cell 2;have C:i' i ⟨W,3,none⟩=J (o.data:la):=t.cell 3;have w:i' i ⟨W,4,none⟩=J (o.par:la):=t.cell 4;have x:i' i ⟨W,5,none⟩=J (o.chunk:la):=t.cell 5;have iL:r' i i (i (Y #[o.blk, .bool o.plain,o.bkt,o.data,o.par,o.chunk,y,gR 0] 76)):=(qZ _ _).alloc (qx _) _;have K:=T (u'.trans (iL.mono u'.size));have G':=T (KA.out _ i A3 c3 (u.below K u.pos) (F'.new i 76 #[o.blk, .bool o.plain,o.bkt,o.data,o.par,o.chunk,y,gR 0]) ((z'.below iL).more iL.size) M)
  clear iL z' t z KA
  go_wp2_with fail;refine G'.mono ?_;rintro e w5 ⟨A5,c5,rfl,m'⟩;have OX:=T (K.trans (m'.2.mono K.size));have M':=T (qi m'.1 (show (W:O)<=_ from K.size))
  clear G' m' K u';have N':G (U (dL o y lv)=42+qj):=by
   have:=M'.out.1;rw [zH] at this;rw [Hid];omega
  go_wp2_with fail
  go_ret2;unfold Jf;rw [f.out];dsimp only;rw [N'.out];exact⟨A5,c5,rfl,M'.out,OX.out⟩
 ·clear k j m a s q
  go_wp2_with fail;refine N.mono ?_;rintro e hh ⟨rfl,D'⟩;have F:=T (d.trans (D'.mono d.size));clear N D' d cB X P C w x
  go_wp2_with fail
  go_ret2;unfold Jf;rw [HR.out];exact⟨none,0,rfl,qP _ _ _ _,F.out⟩
def Pv (v:V) (o:Lx) (l:S JH):V×qn:=if v=1 then Pz o l else if v=2 then Pj o l else if v=3 then Px o l else(4,[])
theorem U5 (v:V) (o:Lx) (A:q') (c B:O) (l:S JH) (W:I) (ht:Pl W) (ih:0<B) (h:E' W B 4 A l (ji l)) (H:B<=(W:O)) (y:U l<=1000000000) (x:U l<=c) (w:c<=maxLen) (s: -9223372036854775808<=o.data/\o.data<=9223372036854775807) (f:kF l=0-> ∀r∈l,Yj r)
  (q:v=1->vM 1 o=0->kF l=0->rI o l) (m:v=2->vM 2 o=0->kF l=0->pQ o l/\U (JT o l)<=999999000)
  (p:v=3->vM 3 o=0->kF l=0->pQ o l/\Sb o (U (JT o l))=0):
  xG 10 #[v, .agg (Ld o),Z A l c] W (Jf W (Pv v o l)):=by
 have a:G (r' W W (W (Y #[o.blk, .bool o.plain,o.bkt,o.data,o.par,o.chunk] 23))):=j1 _;have d:=ht.below a ht.pos;have g:=h.below (a.mono H);have u:B<=(W (Y #[o.blk, .bool o.plain,o.bkt,o.data,o.par,o.chunk] 23):O):=qv H a.size;by_cases C:v=1
 ·subst C;have K:=rl o A c B l (W (Y #[o.blk, .bool o.plain,o.bkt,o.data,o.par,o.chunk] 23)) d ih g u y x w s f (q rfl);rw [show Pv 1 o l=Pz o l from rfl];unfold Ld Jf at K⊢;generalize Pz o l=R at*;obtain⟨E,bs⟩:=R;dsimp only at K⊢;generalize U l=n at*;replace K:=T K;clear q m p g h d ht f;go_in;go_wp2_with fail;generalize W (Y #[o.blk, .bool o.plain,o.bkt,o.data,o.par,o.chunk] 23)=D at*;refine K.mono ?_;rintro e F ⟨j,c1,rfl,b⟩;have k:=T (qi b.1 a.size);have i:=T (a.trans (b.2.mono a.size));clear b;go_wp2;go_ret2;exact⟨j,c1,rfl,k,i⟩
 have N:(v==1)=false:=by simpa using C
 by_cases z:v=2
 ·subst z;have K:=rL o A c B l (W (Y #[o.blk, .bool o.plain,o.bkt,o.data,o.par,o.chunk] 23)) d g u y x w s f (m rfl);rw [show Pv 2 o l=Pj o l from rfl];unfold Ld Jf at K⊢;generalize Pj o l=R at*;obtain⟨E,bs⟩:=R;dsimp only at K⊢;generalize U l=n at*;replace K:=T K;clear q m p g h d ht f;go_in;go_wp2_with fail;generalize W (Y #[o.blk, .bool o.plain,o.bkt,o.data,o.par,o.chunk] 23)=D at*;refine K.mono ?_;rintro e F ⟨j,c1,rfl,b⟩;have k:=T (qi b.1 a.size);have i:=T (a.trans (b.2.mono a.size));clear b;go_wp2;go_ret2;exact⟨j,c1,rfl,k,i⟩
 have Q:(v==2)=false:=by simpa using z
 by_cases t:v=3
 ·subst t;have K:=h_ o A c B l (W (Y #[o.blk, .bool o.plain,o.bkt,o.data,o.par,o.chunk] 23)) d g u y x w s f (p rfl);rw [show Pv 3 o l=Px o l from rfl];unfold Ld Jf at K⊢;generalize Px o l=R at*;obtain⟨E,bs⟩:=R;dsimp only at K⊢;generalize U l=n at*;replace K:=T K;clear q m p g h d ht f;go_in;go_wp2_with fail;generalize W (Y #[o.blk, .bool o.plain,o.bkt,o.data,o.par,o.chunk] 23)=D at*;refine K.mono ?_;rintro e F ⟨j,c1,rfl,b⟩;have k:=T (qi b.1 a.size);have i:=T (a.trans (b.2.mono a.size));clear b;go_wp2;go_ret2;exact⟨j,c1,rfl,k,i⟩
 have L:(v==3)=false:=by simpa using t
 have P:Pv v o l=(4,[]):=by unfold Pv;rw [qJ C,qJ z,qJ t]
 rw [P];unfold Ld Jf;generalize U l=n at*;clear q m p g h d ht f P;go_wp2;go_ret2;exact⟨none,0,rfl,qP _ _ _ _,a⟩
end
def kA:S JH:=[⟨5,1,[100,98],[100,105,115,107,32,102,117,108,108]⟩,⟨3,0,[],[100,105,115,107,32,111,107]⟩]
def H7:Lx:=⟨64,false,0,0,0,0⟩
def Bn:Lx:=⟨64,false,2,0,0,0⟩
def bF:Lx:=⟨64,false,2,2,1,16⟩
def sqB (l:S (O×O×O)):Bool:=l.all (λt=>decide (t.1<256)&&YB (t.1:V) (t.2.1:V) (t.2.2:V))&&decide (U l<=32768)&&decide (U (vA 0 (pz l))<=19)&&decide (U (vA 0 (LW l))<=19)&&decide (gk (P1 l)=0)&&decide (gk (de l)=0)
theorem ir {l:S (O×O×O)} (h:sqB l=true):Sq l:=by
 unfold sqB at h;simp only [zR,zd,xT] at h;obtain⟨⟨⟨⟨⟨h1,h2⟩,h3⟩,h4⟩,h5⟩,h6⟩:=h;exact⟨λt ht=>h1 t ht,h2,h3,h4,h5,h6⟩
def sU:S O->S JH->Bool
 |[],_=>true
 |n::c,l=>decide (n<=U l)&&decide (U (pa true (l.take n))<=32768)&&sqB (Bs (pa true (l.take n)))&&sU c (l.drop n)
theorem sd: ∀{c:S O} {l:S JH},sU c l=true->Es false c l
 |[],_,_=>trivial
 |n::c,l,h=>by
  unfold sU at h;simp only [zR,zd] at h;exact⟨h.1.1.1,h.1.1.2,λ_=>ir h.1.2,sd h.2⟩
def sD:S O->S JH->Bool
 |[],_=>true
 |n::c,l=>decide (n<=U l)&&decide (U (pa false (l.take n))<=32768)&&sqB (Bs (pa false (l.take n)))&&sD c (l.drop n)
theorem sf: ∀{c:S O} {l:S JH},sD c l=true->Gp false c l
 |[],_,_=>trivial
 |n::c,l,h=>by
  unfold sD at h;simp only [zR,zd] at h;exact⟨h.1.1.1,h.1.1.2,λ_=>ir h.1.2,sf h.2⟩
def oR (o:Lx) (l:S JH):Bool:=
 sD (ZK o l) l&&decide (U (pa false l)<=1000000000)&&decide (U (ZK o l)<=20000)&&(ZK o l).all (λx=>decide (x<=20000))&&T5 (bn l).1&&(bn l).2.all (λx=>B5 l (-1) (x.map λn:O=>(n:V))&&decide (1<=U x))
  &&decide ((bn l).2.length<=50000)&&decide (U (YT o l)<=10000000)&&decide (U (P5 l)<=10000000)
theorem r8 {o:Lx} {l:S JH} (c:o.plain=false) (h:oR o l=true):pQ o l:=by
 unfold oR at h;simp only [zR,zd,xT] at h;obtain⟨⟨⟨⟨⟨⟨⟨⟨h1,h2⟩,h3⟩,h4⟩,h5⟩,h6⟩,h7⟩,h8⟩,a⟩:=h;exact⟨by rw [c];exact sf h1,h2,h3,h4,h5,λx b=>h6 x b,h7,h8,a⟩
theorem l9:rI H7 kA:=by
 have h:(sU (Xl H7 kA) kA&&decide (U (pa true kA)<=1000000000)&&decide (U (Xl H7 kA)<=20000))=true:=by decide+kernel
 simp only [zR,zd] at h;exact⟨sd h.1.1,h.1.2,h.2⟩
theorem l_:pQ Bn kA:=r8 rfl (by decide+kernel)
theorem Lq:pQ bF kA:=r8 rfl (by decide+kernel)
theorem LH:vM 1 H7=0:=by decide+kernel
theorem Lb:vM 2 Bn=0:=by decide+kernel
theorem LB:vM 3 bF=0:=by decide+kernel
theorem IS:kF kA=0:=by decide+kernel
theorem Lz:U (JT Bn kA)<=999999000:=by decide+kernel
theorem Lc:Sb bF (U (JT bF kA))=0:=by decide+kernel
theorem iR: ∀r∈kA,Yj r:=by
 intro r a;simp only [kA,qL,xj,Ze] at a;rcases a with rfl|rfl<;>exact⟨FV,FV,FV,FV⟩
theorem un1:QW (pG H7 kA)=0/\(xX (pG H7 kA)).v=1/\(xX (pG H7 kA)).o=H7/\(xX (pG H7 kA)).l=kA/\U (pG H7 kA)<=100000:=by decide+kernel
theorem un2:QW (ky Bn kA)=0/\(xX (ky Bn kA)).v=2/\(xX (ky Bn kA)).o=Bn/\(xX (ky Bn kA)).l=kA/\U (ky Bn kA)<=100000:=by decide+kernel
theorem un3:QW (kQ bF kA)=0/\(xX (kQ bF kA)).v=3/\(xX (kQ bF kA)).o=bF/\(xX (kQ bF kA)).l=kA/\U (kQ bF kA)<=100000:=by decide+kernel
theorem qqR:TA (pG H7 kA)=true:=by decide+kernel
theorem qqt:TA (ky Bn kA)=true:=by decide+kernel
theorem qqT:TA (kQ bF kA)=true:=by decide+kernel
theorem pk1:Pv 1 H7 kA=(0,pG H7 kA):=by
 show Pz H7 kA=_;unfold Pz;rw [qJ (by rw [LH];decide),qJ (by rw [IS];decide)]
theorem pk2:Pv 2 Bn kA=(0,ky Bn kA):=by
 show Pj Bn kA=_;unfold Pj;rw [qJ (by rw [Lb];decide),qJ (by rw [IS];decide)]
theorem pk3:Pv 3 bF kA=(0,kQ bF kA):=by
 show Px bF kA=_;unfold Px;rw [qJ (by rw [LB];decide),qJ (by rw [IS];decide)]
end Go.Proofs.YtfnlfpcfkbdcmaaGreatDoor
