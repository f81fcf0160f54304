import Derived.Test.YtfnlfpcfkbdcmaaGreatDoorL32
import Derived.Test.YtfnlfpcfkbdcmaaGreatDoorL35
import Derived.Test.YtfnlfpcfkbdcmaaGreatDoorL36
set_option linter.unusedSimpArgs false
set_option linter.unusedVariables false
set_option maxRecDepth 100000
set_option maxHeartbeats 0
open Go.Proofs.Tryz
namespace Go.Proofs.YtfnlfpcfkbdcmaaGreatDoor
open Go.RowKit
variable {W:World}{b0 base c k:Nat}{l:q'}{o:Opt}
def Gp (a:Bool):List Nat->List Rec->Prop
 |[],_=>True
 |n::c,l=>n<=l.length/\(Zb false (l.take n)).length<=32768/\(a=false->Sq (P9 (Zb false (l.take n))))/\Gp a c (l.drop n)
theorem B0 {b:Bool}: ∀{a:List Nat} {l:List Rec} (h:Gp b a l) (i:Nat) (hi:i<a.length),(a.take i).sum+a[i]<=l.length/\(Zb false ((l.drop (a.take i).sum).take a[i])).length<=32768/\(b=false->Sq (P9 (Zb false ((l.drop (a.take i).sum).take a[i]))))
 |n::c,l,⟨h1,h2,h3,h4⟩,0,_=>by
  refine⟨?_, ?_, ?_⟩
  ·show 0+n<=l.length;omega
  ·exact h2
  ·exact h3
 |n::c,l,⟨h1,h2,h3,h4⟩,i+1,hi=>by
  have h:=B0 h4 i (by simpa using hi)
  rw [qI,vh] at h;have e:((n::c).take (i+1)).sum=n+(c.take i).sum:=by rw [List.take_succ_cons,List.sum_cons]
  rw [e];have d:(n::c)[i+1]=c[i]'(by simpa using hi):=rfl
  rw [d];exact⟨uK,h.2.1,h.2.2⟩
theorem uy (b:Bool): ∀(c:List Nat) (n:Nat) (l:List Rec),vF b (c++[n]) l=vF b c l++[Fx (Zb false ((l.drop c.sum).take n)) b]
 |[],n,l=>by simp [vF]
 |a::t,n,l=>by
  show Fx _ b::vF b (t++[n]) (l.drop a)=_
  rw [uy b t n (l.drop a),vh,List.sum_cons];rfl
structure pQ (o:Opt) (l:List Rec):Prop where
 blk:Gp o.plain (ZK o l) l
 tot:(Zb false l).length<=1000000000
 num:(ZK o l).length<=20000
 grs: ∀x∈ZK o l,x<=20000
 rs:Gf (P0 l).1=true
 ls: ∀x∈(P0 l).2,dy l (-1) (J9 x)=true/\1<=x.length
 fw:(P0 l).2.length<=50000
 ix:(YT o l).length<=10000000
 co:(P5 l).length<=10000000
def IT (a b:Value) (k i:Nat):Array Value:= #[a,b,k,i]
structure MkJ (W3 W:World) (gD:Nat) (ng cg:Nat) (Ag:q') (i c9 c1:Nat) (A9 A1:q') (fs:List qn):Prop where
 bl:Below W3 W3 W
 dir:Blk W gD 96 (IT (.slice Ag ng cg) (.slice A1 i c1) 0 0)
 ls:zM W 0 W3 A9 i c9 fs
 sz:W.ownsRow W3 3 1 (.slice A1 i c1) i ((fs.map (·.length)).map NV)
theorem MkJ.fresh {m g:World} {j i e c1:Nat} {d f:q'} {b:List qn} (h:MkJ m W k j c l i e c1 d f b) (a:Below W W g):MkJ m g k j c l i e c1 d f b:=⟨h.bl.trans (a.mono h.bl.size),h.dir.below a h.dir.lt,h.ls.below a,qG h.sz a⟩
theorem uN {a:Bool}: ∀{b:List Nat} {l:List Rec},Gp a b l-> ∀f∈vF a b l,f.length<=40000
 |[],l,_,f,h=>by cases h
 |n::c,l,⟨h1,h2,h3,h4⟩,f,h=>by
  rcases qL.1 h with rfl|h
  ·exact pL _ _ h2
  ·exact uN h4 f h
theorem GP: ∀(c s:List Nat),(VU c s).length<=20*c.length
 |[],_=>by simp [VU]
 |n::c,[]=>by simp [VU]
 |n::c,s::t=>by
  have h:=GP c t;have h1:=(jn n).2;have h2:=(jn s).2;show(xv n++xv s++VU c t).length<=_;rw [qK,qK,qf];omega
theorem oa (d:Dir):(Cz d).length<=20*d.counts.length+40:=by
 have h:=GP d.counts d.sizes;have h1:=(jn d.counts.sum).2;have h2:=(jn d.counts.length).2;have h3:=(jn d.cols).2;have h4:=(jn d.index).2;unfold Cz;rw [qK,qK,qK,qK];omega
theorem TL (a q:Nat) (h:q=a+4) (b:a<=1000000000):IntKind.u64.wrap ((a:Int)+4)=(q:Int):=by rw [qS];omega
theorem T0 {o:Opt} (h:J8 o=0):1<=o.bkt/\o.bkt<=64:=by
 unfold J8 vM at h;rw [qJ uK] at h;split at h
 ·rename_i h2;obtain⟨-,h3,-⟩:=h2;dsimp only at h3;omega
 ·cases h
theorem NJ (a n s:Nat) (h:s=a+n) (b:s<=20000):IntKind.i64.wrap ((a:Int)+(n:Int))=(s:Int):=SX
theorem T1 (a n s:Nat) (h:s=a+n) (b:s<=20000):wrap64 ((a:Int)+(n:Int))=(s:Int):=by rw [show(a:Int)+(n:Int)=((s:Nat):Int) by omega];exact Kr _ uK
theorem B4 (w:World) (a:List Value) (t:TypeId):Reads (w.alloc (.cells a.toArray t)) (w.heap.size+1) 1 w a a:=by
 refine⟨s8,λ_=>⟨_,rfl,ze _,λj u b=> ?_⟩⟩;have e:(w.heap.size:Addr).add j=⟨w,j,none⟩:=by unfold Addr.add;split<;>simp_all
 rw [e,(Blk.new w t a.toArray).cell j];simpa using b
theorem zM.Iw {j:World} {n m v:Nat} {A y:q'} {q d:List qn} {vs x:List Value} (G:d.length=m) (D: ∀(i:Nat) (f:qn),d[i]? =some f-> ∃(Ai:q') (b:Nat),x[i]? =some (.slice Ai f b)/\j8 W b0 base Ai b f) (h1:W.ownsRow base 30 1 (.slice A n c) n vs) (h2:q.length=n) (h3: ∀(i:Nat) (f:qn),q[i]? =some f-> ∃(Ai:q') (b:Nat),vs[i]? =some (.slice Ai f b)/\j8 W b0 base Ai b f) (h0:b0<=base) (H:base<=W.heap.size) (C:j.ownsRow base 30 1 (.slice y (n+m) v) (n+m) (vs++x)) (h:W.grownBy j (A.map (·.block))):
  zM j b0 base y (n+m) v (q++d):=by
 have keep: ∀(l:q') (k:Nat) (d:qn),j8 W b0 base l k d->j8 j b0 base l k d:=λl k d w=>by
  rcases A with _|s
  ·obtain⟨o1,o2,o3⟩:=w;refine⟨o1,o2, ?_⟩;rcases o3 with o3|o3
   ·exact .inl (o3.keep λp L=>zw (h.block p.block uK s8))
   ·refine .inr (zI o3 (λa I=> ?_));obtain⟨F,E,o⟩:=jV o3 a.block (by rw [I];rfl);exact h.block _ (jz o) s8
  ·obtain⟨F,E,o⟩:=jV h1 s.block rfl;have K:base<=s.block:=(h1.lt s.block rfl).1;exact w.other h0 o K (λg z B=>h.block g z (by simpa using B))
 have J:vs.length=n:=by have:=h1.1;omega
 refine⟨⟨_,C,by simp [h2,G],λi u hi=> ?_⟩,qv H h.size,h0⟩;by_cases e:i<n
 ·rw [q_ uK] at hi;obtain⟨Ai,b,r,t⟩:=h3 i u hi;exact⟨Ai,b,by rw [q_ uK];exact r,keep _ _ _ t⟩
 ·rw [qm uK,h2] at hi;obtain⟨Ai,b,r,t⟩:=D (i-n) u hi;exact⟨Ai,b,by rw [qm uK,J];exact r,keep _ _ _ t⟩
theorem NX {n3 f c1 c2 h d:Nat} {b g j:q'} {n m p q:qn} (h1:W.ownsRow base 5 1 (.slice b c c1) c (n.map B8)) (h2:W.ownsRow base 5 1 (.slice g k c2) k (m.map B8)) (h3:W.ownsRow base 5 1 (.slice l n3 h) n3 (p.map B8)) (h4:W.ownsRow base 5 1 (.slice j f d) f (q.map B8)):
  ∀(i:Nat) (a:qn),[n,m,p,q][i]? =some a-> ∃(Ai:q') (o:Nat),[Value.slice b c c1, .slice g k c2, .slice l n3 h, .slice j f d][i]? =some (.slice Ai a o)/\j8 W b0 base Ai o a
 |0,a,hi=>by
  obtain⟨e,r⟩:=j8.own (b0:=b0) h1;injection hi with hi
  subst hi;exact⟨b,c1,by rw [e];rfl,r⟩
 |1,a,hi=>by
  obtain⟨e,r⟩:=j8.own (b0:=b0) h2;injection hi with hi
  subst hi;exact⟨g,c2,by rw [e];rfl,r⟩
 |2,a,hi=>by
  obtain⟨e,r⟩:=j8.own (b0:=b0) h3;injection hi with hi
  subst hi;exact⟨l,h,by rw [e];rfl,r⟩
 |3,a,hi=>by
  obtain⟨e,r⟩:=j8.own (b0:=b0) h4;injection hi with hi
  subst hi;exact⟨j,d,by rw [e];rfl,r⟩
 |i+4,a,hi=>by simp at hi
theorem oA (a b c d:Value) (f:a.oneCell'=true) (h:b.oneCell'=true) (g:c.oneCell'=true) (i:d.oneCell'=true): ∀u∈[a,b,c,d],u.oneCell'=true:=by
 intro u e;simp only [qL,xj,Ze] at e;rcases e with rfl|rfl|rfl|rfl<;>assumption
theorem sP (K:Nat): ∀(L:List qn),(∀f∈L,f.length<=K)->L.flatten.length<=K*L.length
 |[],_=>s8
 |f::L,h=>by
  have h1:=h f (qo ..);have h2:=sP K L (λg a=>h g (qM _ a));rw [xI,qK,qf,Nat.mul_add];omega
theorem DC (o:Opt) (A:Option Addr) (c B:Nat) (l:List Rec) (W:World) (ht:Tab W) (h:Reads W B 4 A l (ji l)) (v:B<=W.heap.size) (hc:l.length<=c) (hm:c<=maxLen) (hok: ∀r∈l,Yj r) (hcb:J8 o=0) (hck:xu l=0) (Q':pQ o l):
  Calls prog 36 #[.agg (opA o), .slice A l c] W (Qr 5 W (JT o l) 0):=by
 obtain⟨ck1,ck2,-⟩:=rD hck;have hbkt:=qj (T0 hcb);obtain⟨i1,hi_,hy0,hy1,hy2⟩:=qA Zz;replace hi_:=qj hi_;replace hy0:=qj hy0;replace hy1:=qj hy1;replace hy2:=qj hy2;obtain⟨i2,hj,hx0,hx1,hx2⟩:=qA Pf;replace hj:=qj hj;replace hx0:=qj hx0;replace hx1:=qj hx1;replace hx2:=qj hx2;obtain⟨j0,hq,qz0,qz1,qz2⟩:=qA PH;have hcut:=qj (λ(k m:Nat) (h1:k<=m) (h2:m<=c)=>Vo (P:=prog) 24 45 j0 4 QL hq qz1 A l c k m .i64 .i64 h1 h2);clear hq qz0 qz1 qz2;have hBa:Hid (Below W W (W.alloc (.cells #[o.blk, .bool o.plain,o.bkt,o.data,o.par,o.chunk] 23))):=(qZ _ _).alloc (qx _) _;have HK:Hid (Blk (W.alloc (.cells #[o.blk, .bool o.plain,o.bkt,o.data,o.par,o.chunk] 23)) W 23 #[o.blk, .bool o.plain,o.bkt,o.data,o.par,o.chunk]):=Blk.new _ _ _;have N':=YN o (W.alloc (.cells #[o.blk, .bool o.plain,o.bkt,o.data,o.par,o.chunk] 23));rw [hcb] at N';unfold opA at N'⊢;replace N':=qj N';have Z:=qj ht;have H:=qj h;have HOK:=qj hok;have GD:=qj Q';have KRc:=qj (λV h v=>JW A c B l V h v uK);rw [hck] at KRc;have KG:=qj (λV h v=>gj o.blk false A c B l V h v uK hok Q'.tot);have hgs:GX o.blk false l=ZK o l:=rfl;rw [hgs] at KG;have HBO:=qj Q'.blk;have hng0:=Q'.num;have HGS:=qj Q'.grs;have hMk:Hid (JT o l=(vF o.plain (ZK o l) l).flatten++P5 l++YT o l++VY (Cz ⟨ZK o l,(vF o.plain (ZK o l) l).map (·.length),(P5 l).length,(YT o l).length⟩)++kv (VY (Cz ⟨ZK o l,(vF o.plain (ZK o l) l).map (·.length),(P5 l).length,(YT o l).length⟩)).length 4):=rfl;unfold gz at KG;generalize ZK o l=b at*
 obtain⟨j,P'⟩: ∃j,j=b.length:=⟨_,rfl⟩;rw [<-P'] at KG hng0;replace P':=qj P';have z10:(W.alloc (.cells #[o.blk, .bool o.plain,o.bkt,o.data,o.par,o.chunk] 23)).cell? W.heap.size=some (o.blk:Value):=HK.cell 0;clear ht h hok Q' hcb hgs;replace hck:=qj hck;replace ck2:=qj ck2;go_enter func36,ntmps36
 go_wp2_with fail;generalize W.alloc (.cells #[o.blk, .bool o.plain,o.bkt,o.data,o.par,o.chunk] 23)=w0 at*
 refine N'.mono ?_;rintro e w1 ⟨rfl,hB1⟩;have HB1:=qj (hBa.trans (hB1.mono hBa.size));have HK1:=qj (HK.below hB1 HK.lt);have KRc1:=qj (KRc.out w1 (H.below (HB1.mono v)) (qv v HB1.size));clear N' hB1 z10 HK hBa KRc
 go_wp2_with fail;refine KRc1.mono ?_;rintro e w2 ⟨rfl,hB2⟩;have HB2:=qj (HB1.trans (hB2.mono HB1.size));have HK2:=qj (HK1.below hB2 HK1.lt);have z20:w2.cell? W.heap.size=some (o.blk:Value):=HK2.cell 0;have KG2:=qj (KG.out w2 (H.below (HB2.mono v)) (qv v HB2.size));clear KRc1 hB2 HB1 HK1 KG
 go_wp2_with fail;refine KG2.mono ?_;rintro e a ⟨L,z,rfl,O',p'⟩;have T:=qj (HB2.trans (p'.mono HB2.size));have z':=qj (HK2.below p' HK2.lt);have HG3:=qj (Reads.zY O');clear KG2 p' HB2 HK2 z20 O';have HD:Hid (Blk (a.alloc (.cells #[.slice L j z, .slice none 0 0,(),()] 96)) a 96 (IT (.slice L j z) (.slice none 0 0) 0 0)):=Blk.new _ _ _;have HB4:Hid (Below a a (a.alloc (.cells #[.slice L j z, .slice none 0 0,(),()] 96))):=(qZ _ _).alloc (qx _) _;have y0:(a.alloc (.cells #[.slice L j z, .slice none 0 0,(),()] 96)).cell? a.heap.size=some (.slice L j z):=HD.cell 0
 go_wp2_with fail;obtain⟨d,hgD⟩: ∃g,g=a.heap.size:=⟨_,rfl⟩;have HJ0:Hid (MkJ a (a.alloc (.cells #[.slice L j z, .slice none 0 0,(),()] 96)) d j z L 0 0 0 none none []):=⟨HB4.out,by rw [hgD];exact HD,zM.nil _ _ _ (qp _) HB4.size,qP _ _ _ _⟩
 rw [<-hgD];generalize a.alloc (.cells #[.slice L j z, .slice none 0 0,(),()] 96)=N at*
 clear HD HB4 y0;have hgV:Hid (a.heap.size<=d):=by rw [Hid,hgD];exact qx _
 replace hgD:=qj hgD;go_loopw [9,10,39] (λv9 v10 v39 wr=> ∃(i at_ c9 c1:Nat) (A9 A1:Option Addr),v9= .slice A9 i c9/\v10=(at_:Value)/\v39=(i:Value)/\i<=j/\at_<=20000/\Hid (at_=(b.take i).sum)/\Hid (MkJ a wr d j z L i c9 c1 A9 A1 (vF o.plain (b.take i) l))) (λ_ _ v39 _=>j-(intOf v39).toNat)
 case atStart=>exact⟨0,0,0,0,none,none,rfl,rfl,rfl,qp _,qp _,rfl,HJ0.out⟩
 case round=>
  clear HJ0;obtain⟨i,at_,c9,c1,A9,A1,rfl,rfl,rfl,hi,hat,HAT,D⟩:=hrel;by_cases hlt:i<j
  ·have hlt':(i:Int)<(j:Int):=uK
   have hig:i<b.length:=by rw [<-P'.out];exact hlt
   obtain⟨k1,k2,k3⟩:=B0 HBO i hig;have hgm:=HGS.out b[i] (zx hig);have htk:b.take (i+1)=b.take i++[b[i]]:=by rw [qs,qX hig];rfl
   have hfr:Hid (vF o.plain (b.take (i+1)) l=vF o.plain (b.take i) l++[Fx (Zb false ((l.drop at_).take b[i])) o.plain]):=by rw [Hid,htk,uy,HAT.out]
   have hat2:(b.take (i+1)).sum=at_+b[i]:=by rw [htk,QE,HAT.out];simp
   rw [<-HAT.out] at k1 k2 k3;obtain⟨ad,u,hAg,-,hu,hcell⟩:=(HG3.below D.bl).at_ hlt;subst hAg;rw [qD,qX hig] at hu;generalize b[i]=n at*
   obtain rfl:Value.int .i64 (n:Int)=u:=by simpa [NV] using hu
   have hbw:=pL (Zb false ((l.drop at_).take n)) o.plain k2;have hBV:Below W W wr.drew:=(T.trans (D.bl.mono T.size)).drew;have hrl:((l.drop at_).take n).length=n:=by rw [qh,qI];omega
   have KY:=P8 false (xo A c at_ 4) (c-at_) B ((l.drop at_).take n) wr.drew (by rw [hrl];exact((H.below (hBV.mono v)).MG uK hc).ik uK) (qv v hBV.size) uK (λr hr=>HOK.out r (Q1 (j2 hr))) uK
   rw [hrl] at KY;have U':=λV A c h1 h2=>Ur A (Zb false ((l.drop at_).take n)).length c V.heap.size (Zb false ((l.drop at_).take n)) o.plain V h1 h2 (qx _) k2 k3;generalize Zb false ((l.drop at_).take n)=bs at*
   unfold jQ at KY;unfold Qr at U';generalize Fx bs o.plain=ws at*
   replace KY:=qj KY;replace U':=qj U';obtain⟨s,S⟩: ∃s,s=at_+n:=⟨_,rfl⟩;have hct:=hcut.out at_ s uK uK;rw [show s-at_=n by omega] at hct
   have hs0:(0:Int)<=(at_:Int):=uK;have hs1:(at_:Int)<=(s:Int):=uK;have hs2:(s:Int)<=(c:Int):=uK;have hs3:s<=20000:=uK;have hat3:Hid (s=(b.take (i+1)).sum):=by rw [Hid,hat2,S]
   have hwh:=qj (And.intro (NJ at_ n s S hs3) (T1 at_ n s S hs3));have zp:wr.cell? ⟨W,1,none⟩=some (.bool o.plain):=(z'.below D.bl z'.lt).cell 1;have hgo:=qj z'.lt;replace S:=qj S;have hBV':=qj hBV;have hszV:Hid (a.heap.size<=wr.heap.size):=D.bl.size;clear k1 k2 k3 htk hat2 hu hBV hrl hgm;obtain⟨M,hnw⟩: ∃M,M=ws.length:=⟨_,rfl⟩;rw [<-hnw] at hbw U';replace hnw:=qj hnw;have hw1:=hwh.out.1
   go_wp2_with fail;refine zv 15 (λW'=>W'.cell? ⟨W,1,none⟩=some (.bool o.plain)) AL zp (λiL=> ?_)
   refine zq [0,1,2,3,4,5] (a':= ?_) ?_;refine zq [7,8] (a':= ?_) ?_;refine carried 6 rfl AL SQ (λK hK=> ?_);go_simp
   (go_at_call 34;((with_reducible refine(KY.out).mono ?_);rintro e wA ⟨Ab,cb,rfl,d'⟩);have HBA:Below W W wA:=hBV'.out.trans (d'.2.mono (show W.heap.size<=wr.drew.heap.size from hBV'.out.size));have KWA:=qj (U'.out wA Ab cb (Z.out.below HBA Z.out.pos) d'.reads))
   refine hK _ _ (((d'.2.cell (p:=⟨W,1,none⟩) (qB hgo hszV)).trans zp)) (λiL=> ?_);clear hK K;try simp only [Act.put,qQ,qY,qV]
   refine vf 9 KWA ?_;rintro e wB ⟨Aw,cw,rfl,hfB⟩;refine⟨_,rfl,(((hfB.2.cell (p:=⟨W,1,none⟩) (qB (qB hgo hszV) d'.2.size)).trans iL)),λiL=> ?_⟩;refine zq [10,11,12,13,14] (a':= ?_) ?_;refine zV AL ?_ _;have bAB:Below wr.heap.size wr wB:=((qZ wr.heap.size wr).drew.trans d'.2).trans (hfB.2.mono d'.2.size);have hBB:Hid (Below a a wB):=D.bl.trans (bAB.mono hszV);have HLs:=qj (D.ls.below bAB);have HSz:=qj (qG D.sz bAB);have HDir:=qj (D.dir.below bAB D.dir.lt);have HOw:=qj (qi hfB.1 (show a.heap.size<=wA.heap.size from qv hszV d'.2.size))
   have hln:Hid (ws.length=M):=hnw.symm;have hc1:i+1<=maxLen:=SJ;have hc2:(i+1)*24<=140737488355328:=uK;have hm1:i+1<=maxLen:=hc1;have hm2:(i+1)*8<=140737488355328:=uK;have hw3:=hwh.out.2;generalize vF o.plain (b.take i) l=fs at*
   clear KY U' d' hfB HBA KWA bAB D zp iL hct hcell;have hLa:=HLs.below ((qZ _ wB).alloc (qx _) (.cells #[.slice Aw M cw] 30));have hRa:=j8.below ((j8.own HOw).2) HLs.b0s HLs.bs ((qZ _ wB).alloc (qx _) (.cells #[.slice Aw M cw] 30));obtain⟨⟨vs,t,U,X⟩,y,R⟩:=hLa;replace t:=qj t;replace U:=qj U;replace X:=qj X;replace y:=qj y;replace R:=qj R;replace hRa:=qj hRa;clear HLs HOw
   go_wp2_with (first|(at_builtin;refine qF _ rfl (.tmp 59) (.tmp 61) 87 rfl a 30 i1 (.slice none 0 0) 1 24 jr hi_.out hy0.out hy1.out hy2.out rfl uK A9 i c9 _ rfl t.out (wB.heap.size+1) _ 1 1 _ rfl (zU wB _ _) (one_one rfl) hc1 hc2 y.out ?_;intro A3 c3 N ho4 w _hsq;have C:Below a a N:=zG (hBB.out.alloc hBB.out.size (.cells #[.slice Aw M cw] 30)) w t.out y.out;have Y:=zM.Fv hln.out hRa.out t.out U.out X.out R.out y.out ho4 w;have hS4:=qj (Zt (HSz.out.alloc _) t.out FV w);have hD4:=qj (xQ (HDir.out.alloc _) t.out FV w);have q4:N.cell? ⟨d,1,none⟩=some (.slice A1 i c1):=hD4.out.cell 1;clear HSz HDir;replace C:=qj C;replace Y:=qj Y;clear w _hsq ho4 t U X y R hRa)|(at_builtin;refine qF _ rfl (.tmp 64) (.tmp 67) 62 rfl a 3 i2 () 1 8 jj hj.out hx0.out hx1.out hx2.out rfl uK A1 i c1 _ rfl (hS4.out.alloc (.cells #[M] 3)) (N.heap.size+1) _ 1 1 _ rfl (zU N _ _) (one_one rfl) hm1 hm2 (show a.heap.size<=(N.alloc (.cells #[M] 3)).heap.size from qv C.out.size s8) ?_;intro A2 c2 w3 O' w _hsq;have p':Below a a w3:=zG (C.out.alloc C.out.size (.cells #[M] 3)) w (hS4.out.alloc (.cells #[M] 3)) (show a.heap.size<=(N.alloc (.cells #[M] 3)).heap.size from qv C.out.size s8);have hL5:=qj (zM.apart (Y.out.below ((qZ _ N).alloc (qx _) _)) (hS4.out.alloc _) FV FV (qx _) w);have hD5:=qj (xQ (hD4.out.alloc _) (hS4.out.alloc _) FV w);have q5:w3.cell? ⟨d,1,none⟩=some (.slice A1 i c1):=hD5.out.cell 1;have f5:w3.frozen? ⟨d,1,none⟩=false:=hD5.out.frozen 1;clear Y hD4 hS4;replace O':=qj O';replace p':=qj p';clear w _hsq))
   have hJ:Hid (MkJ a (w3.setCell ⟨d,1,none⟩ (.slice A2 (i+1) c2)) d j z (some ad) (i+1) c3 c2 A3 A2 (fs++[ws])):=⟨p'.setCell (p:=⟨d,1,none⟩) hgV _,hD5.zh 1 _,zM.au hL5 hD5 FV FV 1 _,by
    have hx:=jw O' hD5 FV 1 (.slice A2 (i+1) c2);rw [qg,qg];simp only [jy,xB];rw [<-hnw.out];exact hx⟩
   refine⟨⟨i+1,s,c3,c2,A3,A2,rfl,rfl,by first|rfl|simp,uK,hs3,hat3,by rw [Hid,hfr.out];exact hJ⟩,by simp [intOf];omega⟩
  ·obtain rfl:i=j:=uK
   have hge: ¬(i:Int)<(i:Int):=uK;have hJe:=D.out;rw [qH (by rw [<-P'.out];exact qx _)] at hJe
   have HJe:=qj hJe;have HBr:=qj (T.trans (hJe.bl.mono T.size));have KCol:=qj (En A c B l wr (H.below (HBr.mono v)) (qv v HBr.size) ck1 hc hm HOK);have hco:=GD.co;unfold P5 at hco;rw [ve] at hco;have KPut:=qj (λV A n c xs h1 h2 h3 h4 h5=>XI A n c V.heap.size xs V h1 h2 (qx _) h3 h4 h5);obtain⟨D',hcols⟩: ∃x,x=ui l:=⟨_,rfl⟩;rw [<-hcols] at KCol hco;unfold jQ at KCol KPut;obtain⟨J,hlc⟩: ∃n,n=D'.length:=⟨_,rfl⟩;rw [<-hlc] at KCol hco;replace hcols:=qj hcols;replace hlc:=qj hlc;have zb:wr.cell? ⟨W,2,none⟩=some (o.bkt:Value):=(z'.below hJe.bl z'.lt).cell 2;clear hJe D
   go_wp2_with fail;refine KCol.mono ?_;rintro e w5 ⟨A5,d5,rfl,N9⟩;have HB5:=qj (HBr.trans (N9.2.mono HBr.size));have HJ5:=qj (HJe.fresh N9.2);have KP5:=qj (KPut.out w5 A5 J d5 D' (Z.below HB5 Z.pos) N9.reads (jC N9.1).1 (jC N9.1).2 uK)
   clear KCol N9 HBr HJe
   go_wp2_with fail;refine KP5.mono ?_;rintro e O ⟨A6,d6,rfl,hf6⟩;have HB6:=qj (HB5.trans (hf6.2.mono HB5.size));have HJ6:=qj (HJ5.fresh hf6.2);have HC6:=qj (qi hf6.1 (show a.heap.size<=w5.heap.size from HJ5.bl.size))
   clear KP5 hf6 HB5 HJ5;have zb6:Hid (∀V,Below O O V->V.cell? ⟨W,2,none⟩=some (o.bkt:Value)):=λV hV=>(z'.below (HJ6.bl.trans (hV.mono HJ6.bl.size)) z'.lt).cell 2;have hdr:Below O O O.drew:=(qZ _ _).drew;have hBd:=HB6.trans (hdr.mono HB6.size);have G':=ux A c B l O.drew (H.below (hBd.mono v)) (qv v hBd.size) ck1 ck2.out;unfold oY at G';have rs:=GD.rs;have ls:=GD.ls;have fw:=GD.fw;have ix:=GD.ix;have hbl:(P0 l).1.length=(P0 l).2.length:=(zH ..).symm;unfold YT at ix;rw [ve] at ix;obtain⟨I',hbkn⟩: ∃n:Nat,o.bkt=(n:Int):=⟨o.bkt.toNat,by have:=hbkt.out.1;omega⟩
   rw [hbkn,show((I':Nat):Int).toNat=I' from rfl] at ix
   have hbk2:=hbkt.out;rw [hbkn] at hbk2 zb6;obtain⟨bu,hbu⟩: ∃x,x=P0 l:=⟨_,rfl⟩;rw [<-hbu] at G' rs ls fw ix hbl;obtain⟨bt,bl⟩:=bu;dsimp only at G' rs ls fw hbl;have KBy:=qj (λV At Al nt ct nl cl (q1:nt=bt.length) (q2:nl=bl.length) h1 h2 h3=>aA I' l At Al nt ct nl cl bt bl V h1 h2 h3 uK uK rs ck1 uK uK ls uK);obtain⟨N6,hixs⟩: ∃x,x=Fh I' l (bt,bl):=⟨_,rfl⟩;rw [<-hixs] at KBy ix;unfold Qr at KBy;obtain⟨I,hlx⟩: ∃n,n=N6.length:=⟨_,rfl⟩;rw [<-hlx] at KBy ix;replace hixs:=qj hixs;replace hlx:=qj hlx;replace hbu:=qj hbu;replace hbkn:=qj hbkn;replace G':=qj G';replace rs:=qj rs;replace ls:=qj ls;replace hbl:=qj hbl;clear zb hBd hdr
   go_wp2_with fail;refine zv 12 (λV=>V.cell? ⟨W,2,none⟩=some (I':Value)) AL (zb6.out _ (qZ _ _).drew) (λiL=> ?_)
   refine zq [0,1,2,3,4] (a':= ?_) ?_;refine vf 5 G' ?_;rintro e w7 ⟨At,nt,ct,Al,nl,cl,⟨q1,q2⟩,rfl,ho7,hi7,Z'⟩;refine⟨_,rfl,((zb6.out _ ((qZ _ O).drew.trans Z'))),λiL=> ?_⟩;subst q1;subst q2;have KBz:=qj (KBy.out w7 At Al _ ct _ cl rfl rfl (Reads.zY ho7) hi7.rows (jC ho7).1);refine vf 6 KBz ?_;rintro e w8 ⟨A8,d8,rfl,OX⟩;refine⟨_,rfl,((zb6.out _ (((qZ _ O).drew.trans Z').trans (OX.2.mono Z'.size)))),λiL=> ?_⟩;refine zq [7,8,9,10,11] (a':= ?_) ?_;refine zV AL ?_ _;have b68:Below O O w8:=((qZ _ O).drew.trans Z').trans (OX.2.mono Z'.size);have HB8:=qj (HB6.trans (b68.mono HB6.size));have HJ8:=qj (HJ6.fresh b68);have HC8:=qj (qG HC6 b68);have KP8:=qj (KPut.out w8 A8 I d8 N6 (Z.below HB8 Z.pos) OX.reads (jC OX.1).1 (jC OX.1).2 uK);clear G' KBy KBz ho7 hi7 Z' OX b68 iL zb6 HB6 HJ6 HC6
   go_wp2_with fail;refine KP8.mono ?_;rintro e w9 ⟨A9',d9,rfl,hf9⟩;have HB9:=qj (HB8.trans (hf9.2.mono HB8.size));have G:=qj (HJ8.fresh hf9.2);have HC9:=qj (qG HC8 hf9.2);have HI9:=qj (qi hf9.1 (show a.heap.size<=w8.heap.size from HJ8.bl.size))
   clear KP8 hf9 HB8 HJ8 HC8;have f2:=G.dir.frozen 2;have f3:=G.dir.frozen 3;have g2:w9.cell? ⟨d,2,none⟩=some (.int .i64 0):=G.dir.cell 2;have g3:w9.cell? ⟨d,3,none⟩=some (.int .i64 0):=G.dir.cell 3
   go_wp2_with fail;have S':Hid (Blk ((w9.setCell ⟨d,2,none⟩ (.int .i64 ((J:Int)+4))).setCell ⟨d,3,none⟩ (.int .i64 ((I:Int)+4))) d 96 (IT (.slice L i z) (.slice A1 i c1) (J+4) (I+4))):=(G.dir.zh 2 (.int .i64 ((J:Int)+4))).zh 3 (.int .i64 ((I:Int)+4));have HM10:Hid (qE [d] w9 ((w9.setCell ⟨d,2,none⟩ (.int .i64 ((J:Int)+4))).setCell ⟨d,3,none⟩ (.int .i64 ((I:Int)+4)))):=((qE.refl [d] w9).zh (p:=⟨d,2,none⟩) (qy.2 rfl) _).zh (p:=⟨d,3,none⟩) (qy.2 rfl) _;clear f2 f3 g2 g3;generalize (w9.setCell ⟨d,2,none⟩ (.int .i64 ((J:Int)+4))).setCell ⟨d,3,none⟩ (.int .i64 ((I:Int)+4))=w10 at*
   have Y':=qj (G.bl.trans (HM10.below (λk hk=>by rw [qy.1 hk];exact hgV) G.bl.size))
   have hdirne: ∀{E:TypeId} {size n' c' b':Nat} {A':Option Addr} {xs:List Value},w9.ownsRow b' E size (.slice A' n' c') n' xs->E≠96->w10.ownsRow b' E size (.slice A' n' c') n' xs:=λho hE=>Kd ho HM10 G.dir hE;have HS10:=qj (hdirne G.sz FV);have HC10:=qj (hdirne HC9 FV);have HI10:=qj (hdirne HI9 FV);have HL10:=qj (G.ls.ia HM10 G.dir FV FV);have HB10:=qj (T.trans (Y'.mono T.size));have M':=C3 w10 d w10 i (J+4) (I+4) z c1 L A1 b ((vF o.plain b l).map (·.length)) (S'.cell 0) (S'.cell 1) (S'.cell 2) (S'.cell 3) S'.lt ((HG3.below Y').more Y'.size) (Reads.zY (HS10.out)) (qx _) hng0 (λx hx=>qv (HGS.out x hx) FV) (λx hx=>by
    obtain⟨f,hf,rfl⟩:=jB.1 hx;exact qv (uN HBO f hf) FV) uK uK
   clear hdirne;have hdl:=oa ⟨b,(vF o.plain b l).map (·.length),J+4,I+4⟩;dsimp only at hdl;rw [<-P'.out] at hdl;obtain⟨ds,hds⟩: ∃x,x=Cz ⟨b,(vF o.plain b l).map (·.length),J+4,I+4⟩:=⟨_,rfl⟩;unfold jQ at M';rw [<-hds] at M' hdl;obtain⟨ld,hld⟩: ∃n,n=ds.length:=⟨_,rfl⟩;rw [<-hld] at M' hdl;replace hds:=qj hds;replace hld:=qj hld;replace M':=qj M';refine M'.mono ?_;rintro e w11 ⟨A11,d11,rfl,Q⟩;have HB11:=qj (HB10.trans (Q.2.mono HB10.size));have HBV11:=qj (Y'.trans (Q.2.mono Y'.size));have HC11:=qj (qG HC10 Q.2);have HI11:=qj (qG HI10 Q.2);have HL11:=qj (HL10.below Q.2);have KP11:=qj (KPut.out w11 A11 ld d11 ds (Z.below HB11 Z.pos) Q.reads (jC Q.1).1 (jC Q.1).2 uK);clear M' Q HB10 Y' HC10 HI10 HL10 HS10 S' HM10 G HC9 HI9 HB9
   go_wp2_with fail;refine KP11.mono ?_;rintro e w12 ⟨A12,d12,rfl,J'⟩;have HB12:=qj (HB11.trans (J'.2.mono HB11.size));have HBV12:=qj (HBV11.trans (J'.2.mono HBV11.size));have HC12:=qj (qG HC11 J'.2);have HI12:=qj (qG HI11 J'.2);have HL12:=qj (HL11.below J'.2);have HD12:=qj (qi J'.1 HBV11.size);clear KP11 J' HB11 HBV11 HC11 HI11 HL11;obtain⟨q,hq⟩: ∃q,q=ld+4:=⟨_,rfl⟩;have X':=Vw q 4 w12 uK uK (by rw [show 256^4=4294967296 from by decide];omega)
   rw [show((4:Nat):Int)=4 from rfl] at X'
   unfold Qr at X';have hwq:=TL ld q hq uK;replace hq:=qj hq;replace X':=qj X'
   go_wp2_with fail;refine X'.mono ?_;rintro e w13 ⟨A13,d13,rfl,m'⟩;have HB13:=qj (HB12.trans (m'.2.mono HB12.size));have HBV13:=qj (HBV12.trans (m'.2.mono HBV12.size));have HC13:=qG HC12 m'.2;have HI13:=qG HI12 m'.2;have HD13:=qG HD12 m'.2;have HL13:=HL12.below m'.2;have HF13:=qi m'.1 HBV12.size;rw [show(kv q 4).length=4 from Qa q 4] at HF13⊢
   have u':Below w13 w13 (w13.alloc (.cells #[.slice A6 (J+4) d6, .slice A9' (I+4) d9, .slice A12 (ld+4) d12, .slice A13 4 d13] 30)):=(qZ _ _).alloc (qx _) _;have hrw:=qj (NX (b0:=0) (qG HC13 u') (qG HI13 u') (qG HD13 u') (qG HF13 u'));have hfs:=sP 40000 (vF o.plain b l) (uN HBO);rw [HL13.len] at hfs;have hfs:=qj hfs;obtain⟨⟨vs,t,U,X⟩,y,R⟩:=HL13.below u';replace t:=qj t;replace U:=qj U;replace X:=qj X;replace y:=qj y;replace R:=qj R;have hc1:i+4<=maxLen:=SJ;have hc2:(i+4)*24<=140737488355328:=uK;have HBa13:=qj (HBV13.trans (u'.mono HBV13.size));clear X' m' HB12 HBV12 HC12 HI12 HD12 HL12 HC13 HI13 HD13 HL13 HF13 u' hwq
   go_wp2_with (at_builtin;refine qF _ rfl (.tmp 107) (.tmp 112) 87 rfl a 30 i1 (.slice none 0 0) 1 24 jr hi_ hy0 hy1 hy2 rfl uK A9 i c9 _ rfl t (w13.heap.size+1) _ 4 4 _ rfl (B4 w13 [.slice A6 (J+4) d6, .slice A9' (I+4) d9, .slice A12 (ld+4) d12, .slice A13 4 d13] _) (oA _ _ _ _ rfl rfl rfl rfl) hc1 hc2 y ?_;intro A3 c3 N ho4 w _hsq;have C:Below a a N:=zG HBa13 w t y.out;have Y:=zM.Iw rfl hrw t U X R y ho4 w;replace C:=qj C;replace Y:=qj Y;clear w _hsq ho4 t U X y R hrw HBa13)
   have hcB:P5 l=VY D':=by unfold P5;rw [<-hcols.out]
   have hiB:YT o l=VY N6:=by unfold YT;rw [<-hbu.out,hbkn.out,show((I':Nat):Int).toNat=I' from rfl,<-hixs.out]
   have hM:=hMk.out;rw [hcB,hiB,show(VY D').length=J+4 by rw [ve,<-hlc.out],show(VY N6).length=I+4 by rw [ve,<-hlx.out],<-hds.out,show(VY ds).length=q by rw [ve,<-hld.out,<-hq.out]] at hM
   have hPe:JT o l=(vF o.plain b l++[VY D',VY N6,VY ds,kv q 4]).flatten:=by
    rw [hM,xM];simp only [xI,List.flatten_nil,jx,jY]
   have hPl:(vF o.plain b l++[VY D',VY N6,VY ds,kv q 4]).flatten.length<=1000000000:=by
    have h1:=hfs.out;have h2:=hq.out;rw [xM,qK];simp only [xI,List.flatten_nil,jx,qK];rw [ve,ve,ve,Qa,<-hlc.out,<-hlx.out,<-hld.out];omega
   generalize vF o.plain b l++[VY D',VY N6,VY ds,kv q 4]=P at*
   have hPn:P.length=i+4:=Y.len;have hfl:=uw P (i+4);rw [qH uK] at hfl;have S:=uT (k:=i+4) Y.out.XB (qx _) (qx _);rw [qH uK] at S;have htt:total (P.map (List.map B8))=P.flatten.length:=by unfold total;rw [hfl,zH]
   have KA:=uU A3 (i+4) c3 _ N uK (by rw [htt];exact hPl) S
   rw [htt,hfl] at KA;obtain⟨F,hFe⟩: ∃F,F=P.flatten:=⟨_,rfl⟩;rw [<-hFe] at KA hPe;replace KA:=qj KA;replace hPe:=qj hPe;replace hFe:=qj hFe;clear hfl S htt hPl hPn hM hcB hiB;refine KA.mono ?_;rintro e w15 ⟨A15,c15,rfl,ho15,hB15⟩;have HF:Hid (yG W w15 5 A15 F c15 (F.map B8)):=⟨qi ho15 (qv T.size C.size),T.trans ((C.trans (hB15.mono C.size)).mono T.size)⟩;clear KA ho15 hB15
   go_wp2_with fail
   go_ret2;rw [hPe.out];exact⟨A15,c15,rfl,HF.out⟩
theorem T2 (k:Nat) (h:k<256):B8 (UInt8.ofNat k)= .int .u8 (k:Int):=by
 unfold B8;have e:(UInt8.ofNat k).toNat=k:=SZ;rw [e]
theorem NY (o:Opt) (n:Nat) (p:Int) (g:Nat) (W:World) (ht:Tab W) (R:Blk W g 76 (h3A o (n:Int) p)) (h1:0<=o.blk/\o.blk<=65535) (h2:0<=o.chunk/\o.chunk<=65535) (h3:0<=o.bkt/\o.bkt<=255) (h4:0<=o.data/\o.data<=255) (h5:0<=o.par/\o.par<=255) (hn:n<4294967296):
  Calls prog 70 #[.pointer g] W (jQ 5 W 21 ((Uu o n o.plain).map B8)):=by
 obtain⟨bk,H,kk,dd,qq,cc⟩:=o;dsimp only at h1 h2 h3 h4 h5;obtain⟨f,rfl⟩: ∃f:Nat,bk=(f:Int):=⟨bk.toNat,uK⟩;obtain⟨a,rfl⟩: ∃a:Nat,kk=(a:Int):=⟨kk.toNat,uK⟩;obtain⟨d,rfl⟩: ∃a:Nat,dd=(a:Int):=⟨dd.toNat,uK⟩;obtain⟨c,rfl⟩: ∃a:Nat,qq=(a:Int):=⟨qq.toNat,uK⟩;obtain⟨i,rfl⟩: ∃a:Nat,cc=(a:Int):=⟨cc.toNat,uK⟩;unfold h3A at R;unfold Uu;dsimp only at R⊢;rw [show((f:Nat):Int).toNat=f from rfl,show((a:Nat):Int).toNat=a from rfl,show((d:Nat):Int).toNat=d from rfl,show((c:Nat):Int).toNat=c from rfl,show((i:Nat):Int).toNat=i from rfl];have HT:=qj ht;have HK:=qj R;have KM:=qj (CT 3 W uK uK);rw [show mark 3=DB 3 from rfl,show((3:Nat):Int)=3 from rfl] at KM;have z:=λV=>Vw i 2 V uK uK (by rw [show 256^2=65536 from by decide];omega);have w:=λV=>Vw f 2 V uK uK (by rw [show 256^2=65536 from by decide];omega);have u:=λV=>Vw n 4 V uK uK (by rw [show 256^4=4294967296 from by decide];omega);rw [show((2:Nat):Int)=2 from rfl] at z w;rw [show((4:Nat):Int)=4 from rfl] at u;unfold Qr at z w u;rw [show(kv i 2).length=2 from Qa i 2] at z;rw [show(kv f 2).length=2 from Qa f 2] at w;rw [show(kv n 4).length=4 from Qa n 4] at u;replace z:=λV=>qj (z V);replace w:=λV=>qj (w V);replace u:=λV=>qj (u V);have hu1:IntKind.u64.wrap (i:Int)=(i:Int):=by rw [qS];omega
 have Y':IntKind.u64.wrap (f:Int)=(f:Int):=by rw [qS];omega
 have hu3:IntKind.u64.wrap (n:Int)=(n:Int):=by rw [qS];omega
 have v1:IntKind.u8.wrap (a:Int)=(a:Int):=by rw [va];omega
 have v2:IntKind.u8.wrap (d:Int)=(d:Int):=by rw [va];omega
 have v3:IntKind.u8.wrap (c:Int)=(c:Int):=by rw [va];omega
 clear ht R;obtain⟨k,t⟩: ∃k:Int,B8 (dJ H)= .int .u8 k:=⟨_,rfl⟩;have X':Hid ([dJ H,UInt8.ofNat a,UInt8.ofNat d,UInt8.ofNat c].map B8=[.int .u8 k, .int .u8 (a:Int), .int .u8 (d:Int), .int .u8 (c:Int)]):=by
  rw [Hid,jy,jy,jy,jy,xB,T2 a uK,T2 d uK,T2 c uK,t]
 generalize iL:[dJ H,UInt8.ofNat a,UInt8.ofNat d,UInt8.ofNat c]=J at*;have d':J.length=4:=by rw [<-iL];rfl
 replace iL:=qj iL;replace d':=qj d';go_in;go_wp2_with fail;refine KM.mono ?_;rintro e w1 ⟨A1,c1,rfl,J',Z⟩;have Y:=qj Z;have F:=qj (HK.below Z HK.lt);have D':=qj (Reads.zY J');have z1:w1.cell? ⟨g,1,none⟩=some (.bool H):=F.cell 1;have z5:w1.cell? ⟨g,5,none⟩=some (i:Value):=F.cell 5;clear J' Z;cases H
 (have q:Value.int .u8 0= .int .u8 k:=t;replace q:=qj q;replace t:=qj t;go_wp2_with fail;rw [q.out];clear q)
 rotate_left
 (have q:Value.int .u8 1= .int .u8 k:=t;replace q:=qj q;replace t:=qj t;go_wp2_with fail;rw [q.out];clear q)
 all_goals
  refine(z w1).out.mono ?_;rintro e w2 ⟨A2,c2,rfl,v⟩;have p':=qj (Y.trans (v.2.mono Y.size));have N:=qj (F.below v.2 F.lt);have N9:=qj ((D'.below v.2).more v.2.size);have N6:=qj v.reads;have z0:w2.cell? g=some (f:Value):=N.cell 0;clear v z1 z5;go_wp2_with fail;refine(w w2).out.mono ?_;rintro e w3 ⟨A3,c3,rfl,r⟩;have m':=qj (p'.trans (r.2.mono p'.size));have U:=qj (N.below r.2 N.lt);have I':=qj ((N9.below r.2).more r.2.size);have O':=qj ((N6.below r.2).more r.2.size);have OX:=qj r.reads;have z6:w3.cell? ⟨g,6,none⟩=some (n:Value):=U.cell 6;clear r z0;go_wp2_with fail;refine(u w3).out.mono ?_;rintro e s ⟨A4,c4,rfl,j⟩;have C:=qj (m'.trans (j.2.mono m'.size));have y:=qj (U.below j.2 U.lt);have z':=qj ((I'.below j.2).more j.2.size);have S':=qj ((O'.below j.2).more j.2.size);have M':=qj ((OX.below j.2).more j.2.size);have N':=qj j.reads;clear j z6;have D:Hid (∀m,Below s s m->m.cell? ⟨g,2,none⟩=some (a:Value)/\m.cell? ⟨g,3,none⟩=some (d:Value)/\m.cell? ⟨g,4,none⟩=some (c:Value)):=λm hW=>⟨(hW.cell (p:=⟨g,2,none⟩) y.lt).trans (y.cell 2),(hW.cell (p:=⟨g,3,none⟩) y.lt).trans (y.cell 3),(hW.cell (p:=⟨g,4,none⟩) y.lt).trans (y.cell 4)⟩;go_wp2_with fail;refine zv 28 (λm=>m.cell? ⟨g,2,none⟩=some (a:Value)/\m.cell? ⟨g,3,none⟩=some (d:Value)/\m.cell? ⟨g,4,none⟩=some (c:Value)) AL (D _ (qZ _ _).drew) (λP=> ?_);generalize x:s.drew=b at*;have b4:Below s s b:=by rw [<-x];exact(qZ _ s).drew
  have T:Reads b b 1 A1 5 ((DB 3).map B8):=by rw [<-x];exact z'.out
  have Q:Reads b b 1 A2 2 ((kv i 2).map B8):=by rw [<-x];exact S'.out
  have O:Reads b b 1 A3 2 ((kv f 2).map B8):=by rw [<-x];exact M'.out
  have I:Reads b b 1 A4 4 ((kv n 4).map B8):=by rw [<-x];exact N'.out
  clear x;refine zq [0,1,2,3,4,5] (a':= ?_) ?_;refine zq [6,7,8,9,10,11] (a':= ?_) ?_;refine zq [12,13,14,15,16,17] (a':= ?_) ?_;refine zq [18,19,21,22,23] (a':= ?_) ?_;have l:Below b b (b.alloc (.cells #[.int .u8 k, .int .u8 (a:Int), .int .u8 (d:Int), .int .u8 (c:Int)] 5)):=z8 _;have X:=b4.trans (l.mono b4.size);have kX:Reads (b.alloc (.cells #[.int .u8 k, .int .u8 (a:Int), .int .u8 (d:Int), .int .u8 (c:Int)] 5)) (b.alloc (.cells #[.int .u8 k, .int .u8 (a:Int), .int .u8 (d:Int), .int .u8 (c:Int)] 5)).heap.size 1 b 4 (J.map B8):=by
   rw [X'.out];exact(B4 b [.int .u8 k, .int .u8 (a:Int), .int .u8 (d:Int), .int .u8 (c:Int)] 5).more s8
  replace T:=(T.below l).more l.size;replace Q:=(Q.below l).more l.size;replace O:=(O.below l).more l.size;replace I:=(I.below l).more l.size;generalize hgx:b.heap.size=gX at*;refine carried 20 rfl AL SQ (λK h=> ?_);go_simp;skip;refine h _ _ ((D _ X)) (λP=>xg ?_);clear h K;generalize Z':b.alloc (.cells #[.int .u8 k, .int .u8 (a:Int), .int .u8 (d:Int), .int .u8 (c:Int)] 5)=M at*;have P':Below M M (M.alloc (.cells #[.slice A1 5 c1, .slice gX 4 4, .slice A2 2 c2, .slice A3 2 c3, .slice A4 4 c4] 30)):=z8 _;have L:=X.trans (P'.mono X.size);have S:=qj (EW M A1 gX A2 A3 A4 5 4 2 2 4 c1 4 c2 c3 c4 (DB 3) J (kv i 2) (kv f 2) (kv n 4) T kX Q O I uK);unfold jQ at S;obtain⟨G,B⟩:=j1 (DB 3++J++kv i 2++kv f 2++kv n 4);have U':G.length=17:=by
   rw [B,qK,qK,qK,qK,Qa,Qa,Qa,d'.out];rfl
  rw [<-B,U'] at S;replace B:=qj B;refine carried 24 rfl AL SQ (λK h=> ?_);go_simp;skip;refine h _ _ ((D _ L)) (λP=>xg ?_);clear h K;refine carried 25 rfl AL SQ (λK h=> ?_);go_simp
  (go_at_call 30;((with_reducible refine(S.out).mono ?_);rintro e wE ⟨A9,c9,rfl,E⟩);have A:=L.trans (E.2.mono L.size);have KP:=qj (XI A9 17 c9 wE G wE (HT.out.below (C.out.trans (A.mono C.out.size)) HT.out.pos) E.reads (qx _) (jC E.1).1 (jC E.1).2 uK))
  refine h _ _ ((D _ A)) (λP=>xg ?_);clear h K;unfold jQ at KP;refine carried 26 rfl AL SQ (λK h=> ?_);go_simp
  (go_at_call 35;((with_reducible refine(KP.out).mono ?_);rintro e wP ⟨Q',G',rfl,u'⟩);have b8:=A.trans (u'.2.mono A.size))
  refine h _ _ ((D _ b8)) (λP=>xg ?_);clear h K;refine zq [27] (a':= ?_) ?_;refine zV AL ?_ _;have HF:Hid (yG s wP 5 Q' 21 G' ((VY G).map B8)):=⟨qi u'.1 A.size,b8⟩;clear S KP u' E l P' b4 X L A b8 T kX Q O I;go_wp2;go_ret;rw [<-B.out];exact⟨Q',G',rfl,qi HF.out.1 C.size,C.trans (HF.out.2.mono C.size)⟩
theorem oe {l:List Rec} (h:xu l≠0):xu l=6:=by
 revert h;unfold xu;split<;>simp
theorem IW (h:vM 2 o=0):J8 o=0/\16<=o.blk/\o.blk<=32768/\1<=o.bkt/\o.bkt<=64:=by
 unfold vM at h;rw [qJ uK] at h;split at h
 ·rename_i h2;unfold J8 vM;dsimp only;rw [qJ uK,qk uK];omega
 ·cases h
theorem Is (h:vM 3 o=0):J8 o=0/\16<=o.blk/\o.blk<=32768/\1<=o.bkt/\o.bkt<=64/\1<=o.data/\o.data<=255/\0<=o.par/\o.par<=255/\1<=o.chunk/\o.chunk<=4096:=by
 unfold vM at h;rw [qJ uK] at h;split at h
 ·rename_i h2;unfold J8 vM;dsimp only;rw [qJ uK,qk uK];omega
 ·cases h
theorem U4 (o:Opt) (A:q') (c B:Nat) (l:List Rec) (W:World) (h:Reads W B 4 A l (ji l)) (d:B<=W.heap.size) (j:l.length<=1000000000) (k:J8 o=0) (i:xu l≠0):
  Calls prog 36 #[.agg (opA o), .slice A l c] W λe r=>e= .returned (.tuple #[zn, .int .i64 6])/\Below W W r:=by
 have g:Hid (Below W W (W.alloc (.cells #[o.blk, .bool o.plain,o.bkt,o.data,o.par,o.chunk] 23))):=z8 _;have a:=YN o (W.alloc (.cells #[o.blk, .bool o.plain,o.bkt,o.data,o.par,o.chunk] 23));rw [k] at a;unfold opA at a⊢;replace a:=qj a;have H:=qj h;have f:=qj (λV h d=>JW A c B l V h d j);rw [oe i] at f;clear h i k j;go_in;go_wp2_with fail;generalize W.alloc (.cells #[o.blk, .bool o.plain,o.bkt,o.data,o.par,o.chunk] 23)=t at*;refine zC a ?_;intro s m;have b:=qj (g.trans (m.mono g.size));have p:=qj (f s (H.below (b.mono d)) (qv d b.size));clear m;go_wp2_with fail;refine zC p ?_;intro u n;have q:=qj (b.trans (n.mono b.size));clear n;go_wp2;go_ret2;exact⟨rfl,q⟩
def Pj (o:Opt) (l:List Rec):Int×qn:=if vM 2 o≠0 then(vM 2 o,[]) else if xu l≠0 then(6,[]) else(0,ky o l)
theorem rL (o:Opt) (A:Option Addr) (c B:Nat) (l:List Rec) (W:World) (ht:Tab W) (h:Reads W B 4 A l (ji l)) (p:B<=W.heap.size) (hl:l.length<=1000000000) (hc:l.length<=c) (hm:c<=maxLen) (hd: -9223372036854775808<=o.data/\o.data<=9223372036854775807) (Q:xu l=0-> ∀r∈l,Yj r)
  (L:vM 2 o=0->xu l=0->pQ o l/\(JT o l).length<=999999000):
  Calls prog 19 #[.agg (opA o), .slice A l c] W (Jf W (Pj o l)):=by
 obtain⟨R,f⟩: ∃R,R=Pj o l:=⟨_,rfl⟩;rw [<-f];unfold Pj at f;have k:Hid (Below W W (W.alloc (.cells #[o.blk, .bool o.plain,o.bkt,o.data,o.par,o.chunk] 23))):=(qZ _ _).alloc (qx _) _;have q:Hid (Blk (W.alloc (.cells #[o.blk, .bool o.plain,o.bkt,o.data,o.par,o.chunk] 23)) W 23 #[o.blk, .bool o.plain,o.bkt,o.data,o.par,o.chunk]):=Blk.new _ _ _;have g:=qj (JX 2 o.blk o.bkt o.data o.par o.chunk o.plain (W.alloc (.cells #[o.blk, .bool o.plain,o.bkt,o.data,o.par,o.chunk] 23)) hd);rw [VT 2 o.blk o.bkt o.data o.par o.chunk o.plain] at g;rw [show(⟨o.blk,o.plain,o.bkt,o.data,o.par,o.chunk⟩:Opt)=o from rfl] at g
 have H:=qj h;have M:=qj ht;clear h ht;by_cases h1:vM 2 o=0
 case neg=>
  have Z:Hid (R=(vM 2 o,[])):=by rw [Hid,f,qk h1]
  unfold opA;generalize vM 2 o=E at*
  have OX:(E==0)=false:=by simpa using h1
  have N9:(E !=0)=true:=by simpa using h1
  clear f L q Q;go_enter func19,ntmps19
  go_wp2_with fail;refine g.mono ?_;rintro e b ⟨rfl,i⟩;have d:=qj (k.trans (i.mono k.size));clear g i
  go_wp2_with fail
  go_ret2;unfold Jf;rw [Z.out];exact⟨none,0,rfl,qP _ _ _ _,d.out⟩
 rw [qJ (by simpa using h1)] at f
 obtain⟨N,T,S,k3,U⟩:=IW h1;by_cases h2:xu l=0
 focus
  rw [qJ (by simpa using h2)] at f
  have M':=qj (Q h2);clear Q;obtain⟨D',J'⟩:=L h1 h2;have j:=qj (λV ht h p=>DC o A c B l V ht h p hc hm M' N h2 D');have u:=qj (λV ht=>NQ o V ht T S k3 U);have z':ky o l=dI o++JT o l:=rfl;rw [z'] at f;unfold opA at j u⊢;rw [h1] at g;unfold Qr at j;unfold jQ at u;have d':(dI o).length=(DB 2++xv o.blk.toNat++[dJ o.plain]++xv o.bkt.toNat).length+4:=by unfold dI;rw [ve]
  rw [<-d'] at u;have G':(dI o).length<=100:=by
   rw [d'];have O':=(jn o.blk.toNat).2;have N':=(jn o.bkt.toNat).2;simp only [qK,qf,zF];have:(DB 2).length=5:=rfl;omega
  generalize JT o l=mb at*
  generalize dI o=u' at*
  clear L h1 h2 N T S k3 U D' z' d';obtain⟨lm,y⟩: ∃n,n=mb.length:=⟨_,rfl⟩;obtain⟨lh,z⟩: ∃n,n=u'.length:=⟨_,rfl⟩;rw [<-y] at j J';rw [<-z] at u G';replace y:=qj y;replace z:=qj z;replace f:=qj f;go_enter func19,ntmps19
  go_wp2_with fail;generalize W.alloc (.cells #[o.blk, .bool o.plain,o.bkt,o.data,o.par,o.chunk] 23)=w0 at*
  refine g.mono ?_;rintro e b ⟨rfl,i⟩;have d:=qj (k.trans (i.mono k.size));have a:=qj (q.below i q.lt);have x:=qj (j.out b (M.below d M.pos) (H.below (d.mono p)) (qv p d.size))
 rotate_left
 focus
  have Z:Hid (R=(6,[])):=by rw [Hid,f,qk h2]
  have j:=qj (λV h p=>U4 o A c B l V h p hl N h2);unfold opA at j⊢;rw [h1] at g;clear f L Q h1 h2 N T S k3 U;go_enter func19,ntmps19
  go_wp2_with fail;generalize W.alloc (.cells #[o.blk, .bool o.plain,o.bkt,o.data,o.par,o.chunk] 23)=w0 at*
  refine g.mono ?_;rintro e b ⟨rfl,i⟩;have d:=qj (k.trans (i.mono k.size));have a:=q.below i q.lt;have x:=qj (j.out b (H.below (d.mono p)) (qv p d.size))
 rotate_left
 all_goals
  have G:b.cell? W.heap.size=some (o.blk:Value):=a.cell 0;have C:b.cell? ⟨W,1,none⟩=some (.bool o.plain):=a.cell 1;have F:b.cell? ⟨W,2,none⟩=some (o.bkt:Value):=a.cell 2;have D:b.cell? ⟨W,3,none⟩=some (o.data:Value):=a.cell 3;have I:b.cell? ⟨W,4,none⟩=some (o.par:Value):=a.cell 4;have J:b.cell? ⟨W,5,none⟩=some (o.chunk:Value):=a.cell 5
 ·clear g i j q k
  go_wp2_with fail;refine x.mono ?_;rintro e m ⟨A2,c2,rfl,O⟩;have t:=qj (d.trans (O.2.mono d.size));have s:=a.below O.2 a.lt;have p':=qj (O.reads);have iL:=qj (u.out m (M.below t M.pos));clear x O G C F D I J u;have G:m.cell? W.heap.size=some (o.blk:Value):=s.cell 0;have C:m.cell? ⟨W,1,none⟩=some (.bool o.plain):=s.cell 1;have F:m.cell? ⟨W,2,none⟩=some (o.bkt:Value):=s.cell 2;have D:m.cell? ⟨W,3,none⟩=some (o.data:Value):=s.cell 3;have I:m.cell? ⟨W,4,none⟩=some (o.par:Value):=s.cell 4;have J:m.cell? ⟨W,5,none⟩=some (o.chunk:Value):=s.cell 5;clear a s d
  go_wp2_with fail;refine iL.mono ?_;rintro e K ⟨A3,c3,rfl,w⟩;have Y:=qj (t.trans (w.2.mono t.size));have hW:Below K K (K.alloc (.cells #[.slice A3 lh c3, .slice A2 lm c2] 30)):=(qZ _ _).alloc (qx _) _;have v:=Yz K A3 A2 lh lm c3 c2 u' mb (w.reads) ((p'.below w.2).more w.2.size) uK
  have P:=qj (Y.trans (hW.mono Y.size));unfold jQ at v;rw [qK,<-z.out,<-y.out] at v;replace v:=qj v;clear iL w G C F D I J p' t hW
  go_wp2_with fail;refine v.mono ?_;rintro e w5 ⟨A5,c5,rfl,X⟩;have N6:=qj (P.trans (X.2.mono P.size));have I':=qj (qi X.1 (show W.heap.size<=_ from P.size))
  clear v X P Y
  go_wp2_with fail
  go_ret2;unfold Jf;rw [f.out];dsimp only;rw [qK,<-z.out,<-y.out];exact⟨A5,c5,rfl,I'.out,N6.out⟩
 ·clear g i j a q k
  go_wp2_with fail;refine x.mono ?_;rintro e m ⟨rfl,m'⟩;have t:=qj (d.trans (m'.mono d.size));clear x m' d G C F D I J
  go_wp2_with fail
  go_ret2;unfold Jf;rw [Z.out];exact⟨none,0,rfl,qP _ _ _ _,t.out⟩
end Go.Proofs.YtfnlfpcfkbdcmaaGreatDoor
