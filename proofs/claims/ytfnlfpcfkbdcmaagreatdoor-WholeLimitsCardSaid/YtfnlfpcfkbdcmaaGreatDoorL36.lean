import Derived.Test.YtfnlfpcfkbdcmaaGreatDoorL33
set_option linter.unusedSimpArgs false
set_option linter.unusedVariables false
set_option maxRecDepth 100000
set_option maxHeartbeats 0
open Go.Proofs.Tryz
namespace Go.Proofs.YtfnlfpcfkbdcmaaGreatDoor
open Go.RowKit
theorem rY: ∀(l:List Rec) (i t v:Nat) (h:i<l.length),((ji l).set (i*4) (.int .u64 (t:Int))).set (i*4+1) (.int .u8 (v:Int))=ji (l.set i ⟨t,v,l[i].src,l[i].txt⟩)
 |a::l,0,t,v,_=>rfl
 |a::l,i+1,t,v,h=>by
  have b:=rY l i t v (by simpa using h)
  have h4:(rcC a).length=4:=rfl;rw [show ji (a::l)=rcC a++ji l by simp [ji],qV,show∀m,ji (a::m)=rcC a++ji m from λm=>by simp [ji],Qh _ _ (by rw [h4];omega),Qh _ _ (by rw [h4];omega),h4,show(i+1)*4-4=i*4 by omega,show(i+1)*4+1-4=i*4+1 by omega]
  rw [List.getElem_cons_succ,b]
def IE (ts:List Nat) (ls:qn) (i:Nat) (r:Rec):Rec:={r with time:=ts.getD i 0,level:=(ls.getD i 0).toNat}
def kL (ts:List Nat) (ls:qn) (k:Nat) (l:List Rec):List Rec:=l.mapIdx λi r=>if i<k then IE ts ls i r else r
theorem oZ (ts:List Nat) (ls:qn) (l:List Rec):kL ts ls 0 l=l:=by
 unfold kL;apply zm;intro j;rw [yE];cases l[j]? <;>simp
theorem sV (ts:List Nat) (ls:qn) (l:List Rec):kL ts ls l l=tX ts ls l:=by
 unfold kL tX;apply zm;intro j;rw [yE,yE];rcases jE j l.length with h|h
 ·rw [qX h];simp [h,IE]
 ·rw [qO h];rfl
theorem sY (ts:List Nat) (ls:qn) (k:Nat) (l:List Rec):(kL ts ls k l).length=l.length:=List.length_mapIdx
theorem oJ (ts:List Nat) (ls:qn) (k:Nat) (l:List Rec) (h:k<l.length) (b:k<(kL ts ls k l).length):(kL ts ls k l).set k ⟨ts.getD k 0,(ls.getD k 0).toNat,(kL ts ls k l)[k].src,(kL ts ls k l)[k].txt⟩=kL ts ls (k+1) l:=by
 have e:(kL ts ls k l)[k]=l[k]:=by simp [kL]
 rw [e];apply zm;intro j;rw [vD];by_cases a:k=j
 ·subst a;rw [qk rfl,qk b];unfold kL;rw [yE,qX h];simp [IE]
 ·rw [qJ a];unfold kL;rw [yE,yE];cases l[j]?with
  |none=>rfl
  |some r=>
   simp only [Za];by_cases h1:j<k
   ·rw [qk h1,qk uK]
   ·rw [qJ h1,qJ uK]
theorem cell_far (w:World) {p q:Addr} (h:q.block≠p.block) (u:Value):(w.setCell p u).cell? q=w.cell? q:=zw (jT w p u q.block h)
theorem rK (l:List Nat) (k:Nat) (h:k<l.length):(l.take k).sum+l[k]<=l.sum:=by
 have e:l.take (k+1)=l.take k++[l[k]]:=by rw [qs,qX h];rfl
 have h2:=zo List.sum (QG (k+1) l);rw [QE,e,QE] at h2;simp at h2;omega
def Bi (W:World) (r:Int×List Rec) (e:Ending) (a:World):Prop:=
 ∃A n c,n=r.2.length/\e= .returned (.tuple #[.slice A n c, .int .i64 r.1])/\a.ownsRow W 45 4 (.slice A n c) n (ji r.2)/\Below W W a
theorem GI (W:World) (base g k:Nat) (x:ks) (ht:Tab W) (h:Bdy W base g x) (ok:Tc x) (hk:k<x.JB.length) (hfr: ∀f∈x.JB,f.length<=100000000):
  Calls prog 115 #[.pointer g,k] W (Bi W (V5 x k)):=by
 obtain⟨A0,I,c0,A1,n1,c1,At,O,ct,Al,S,cl,Ax,nx,cx,Ay,ny,cy,Af,nf,cf,v9,⟨e0,e1,et,el,ex,ey,ef⟩,hb,h1,h2,h3,h4,h5,h6,h7⟩:=h;obtain⟨R,r⟩:=j1 (V5 x k);rw [<-r];unfold V5 at r;dsimp only at r;have hkf:k<nf:=uK;obtain⟨ad,fr,Ai,ni,ci,hA,-,hx,hcell,hnc,hcm,N'⟩:=h6.XB.row hkf;subst hA;have hfg:x.JB.getD k []=fr:=by rw [qd,hx];rfl
 rw [hfg] at r;have hfl:=hfr fr (zQ hx);have U':=N'.len;have F:=DK Ai ci W.heap.size fr W ht (by rw [U'];exact N') (qx _) hfl uK hcm;rw [U'] at F r;have hrl:=uA fr;unfold Bf at F;generalize Ft fr=rb at*;obtain⟨E,J',kn⟩:=rb;dsimp only at r F hrl;have u':k<x.dir.counts.length:=by rw [<-ok.JB];exact hk
 have hck:x.dir.counts.getD k 0=x.dir.counts[k]:=by rw [qd,qX u'];rfl
 rw [hck] at r;obtain⟨N9,u0,hA0,-,P',D'⟩:=(Reads.zY h1).at_ (show k<I by omega);rw [qD,qX u'] at P';have hu0':u0=NV x.dir.counts[k]:=(zy P').symm;subst hu0';unfold NV at D';have p':=rK x.dir.counts k u';have hsum:=ok.sum;have hct20:=ok.small _ (zx u');generalize x.dir.counts[k]=cn at*;have q8:W.cell? ⟨g,8,none⟩=some (.slice (some ad) nf cf):=hb.cell 8;have Q:=qj (λW' (P:Below W.heap.size W W')=>And.intro (hb.below P hb.lt) (And.intro (qG h1 P) (And.intro (qG h2 P) (And.intro (qG h3 P) (And.intro ((P.cell (p:=ad.add k) (yM hcell)).trans hcell) ((P.cell (p:=N9.add k) (yM D')).trans D'))))));replace r:=qj r;replace F:=qj F;have hkf':=j' k nf;have hk0:=xi k;have hkn0:=j' k I;have HG:=qj hb.lt;have hn0k:k<=I:=uK;have hcap0:=jC h1;have hn0b:I<=20000:=by have:=ok.few;omega
 have G':=qj ok;have hnts:=qj et;have hnls:=qj el;clear ht h1 h2 h3 h4 h5 h6 hb hfg hx N' P' hck hfr e0 e1 ex ey ef ok et el U';subst hA0;go_in;go_wp2_with fail;refine F.mono ?_;rintro e X ⟨A1',c1',rfl,hf⟩;have B:=qj hf.2;have HO1:=qj hf.1;clear F hf q8;obtain⟨-,-,-,-,x1,-⟩:=Q X B.out;by_cases v:E=0
 case neg=>
  have G:=qj (r.out.trans (qk v));have hEz:(E==0)=false:=by simpa using v
  have hEn:(E !=0)=true:=by simpa using v
  replace v:=qj v;clear r;go_wp2_with fail;go_ret2;rw [G.out];exact⟨none,0,0,rfl,rfl,qP _ _ _ _,B⟩
 subst v;have w:=r.out;rw [qJ s8] at w;have q8:X.cell? ⟨g,8,none⟩=some (.slice (some ad) nf cf):=(Q X B).1.cell 8;by_cases m':kn<ni
 ·have G:=qj (w.trans (qk m'));have hlt':=j' kn ni;clear r w;go_wp2_with fail;go_ret2;rw [G.out];exact⟨none,0,0,rfl,rfl,qP _ _ _ _,B⟩
 rw [qJ m'] at w;have hlt':=vv kn ni;have J:=UE false A1' J' c1' X J' X (Reads.zY HO1) (qx _) uK;unfold gZ at J;generalize hX false J'=rr at*;obtain⟨E2,l⟩:=rr;dsimp only at w J;replace w:=qj w;replace J:=qj J;clear r HO1;go_wp2_with fail;refine J.mono ?_;rintro e N ⟨A9,c9,rfl,ho2,hB2⟩;have H:=qj (B.trans (hB2.mono B.size));have HO2:=qj (qi ho2 B.size);clear J ho2 hB2 x1 q8;by_cases v:E2=0
 case neg=>
  have G:=qj (w.out.trans (qk v));have hEz:(E2==0)=false:=by simpa using v
  have hEn:(E2 !=0)=true:=by simpa using v
  replace v:=qj v;clear w;go_wp2_with fail;go_ret2;rw [G.out];exact⟨none,0,0,rfl,rfl,qP _ _ _ _,H⟩
 subst v;have D:=w.out;rw [qJ s8] at D;generalize C:l.length=o at*;have q0:N.cell? g=some (.slice (some N9) I c0):=(Q N H).1.cell 0;obtain⟨-,-,-,-,-,x0⟩:=Q N H.out;by_cases I':o=cn
 case neg=>
  have G:=qj (D.trans (qk I'));have hne:((o:Int) !=(cn:Int))=true:=SZ;clear w D;go_wp2_with fail;go_ret2;rw [G.out];exact⟨none,0,0,rfl,rfl,qP _ _ _ _,H⟩
 rw [qJ (by simpa using I')] at D;subst I';replace D:=qj D;replace C:=qj C;clear w;have z':=Gi N g N I c0 k (some N9) x.dir.counts q0 (Reads.zY (Q N H).2.1) uK hn0k hcap0.1 (λa ha=>qv (G'.small a ha) FV);generalize (x.dir.counts.take k).sum=n at*;replace z':=qj z';have hfsl:n+o<=20000:=uK;replace p':=qj p';go_wp2_with fail;refine z'.mono ?_;rintro e w' ⟨rfl,rfl⟩;clear z' x0 q0;go_wp2_with fail;go_loopw [67] (λOX wr=> ∃i:Nat,OX=(i:Value)/\i<=o/\Hid (wr.ownsRow W.heap.size 45 4 (.slice A9 o c9) o (ji (kL (x.times.drop n) (x.levels.drop n) i l)))/\Hid (Below W.heap.size W wr)) (λOX _=>o-(intOf OX).toNat)
 ·exact⟨0,rfl,qp _,by rw [Hid,oZ];exact HO2,H⟩
 ·clear HO2 H;obtain⟨i,rfl,hin,y,HB⟩:=hrel;by_cases m':i<o
  ·have hlt':=j' i o;have hi0:=xi i;obtain⟨m,cap,hv,-,-⟩:=y.form (show 0<o by omega);injection hv with hA9 hq1 hq2;clear hq1 hq2;subst hA9;obtain⟨s,hs⟩:=j1 (n+i);have X':s<x.times.length:=by rw [G'.times];have:=p'.out;omega
   have N6:s<x.levels.length:=by rw [G'.levels];have:=p'.out;omega
   have hsnt:s<O:=by rw [hnts.out];exact X'
   have hsnl:s<S:=by rw [hnls.out];exact N6
   obtain⟨kb,-,ot,ol,-,-⟩:=Q wr HB.out;obtain⟨z,u,rfl,-,hu,S'⟩:=(Reads.zY ot).at_ hsnt;rw [qD,qX X'] at hu;have hu':u=V64 x.times[s]:=(zy hu).symm;subst hu';obtain⟨A,u2,rfl,-,M',Z'⟩:=(Reads.zY ol).at_ hsnl;rw [qD,qX N6] at M';have hu2':u2=B8 x.levels[s]:=(zy M').symm;subst hu2';have hg1:(x.times.drop n).getD i 0=x.times[s]:=by rw [qd,jt,<-hs,qX X'];rfl
   have hg2:(x.levels.drop n).getD i 0=x.levels[s]:=by rw [qd,jt,<-hs,qX N6];rfl
   have iL:i<(kL (x.times.drop n) (x.levels.drop n) i l).length:=by rw [sY,C.out];exact m'
   have Y:=oJ (x.times.drop n) (x.levels.drop n) i l (by rw [C.out];exact m') iL;rw [hg1,hg2] at Y;have Z:=rY (kL (x.times.drop n) (x.levels.drop n) i l) i x.times[s] x.levels[s].toNat iL;rw [Y] at Z;unfold V64 at S';unfold B8 at Z';generalize kL (x.times.drop n) (x.levels.drop n) i l=M,x.times[s]=T,x.levels[s].toNat=L at*;have hgo0:=VQ y (show i*4<o*4 by omega);have hgo1:=VQ y (show i*4+1<o*4 by omega);have p1:=Uh (k:=i*4) y (.int .u64 (T:Int));have hgp1:=VQ p1 (show i*4+1<o*4 by omega);have p2:=Uh (k:=i*4+1) p1 (.int .u8 (L:Int));rw [Z] at p2;obtain⟨tm0,hM1⟩: ∃t:Int,(ji M)[i*4]? =some (.int .u64 t):=⟨_,kg M i 0 iL uK⟩;obtain⟨lv0,O'⟩: ∃t:Int,(ji M)[i*4+1]? =some (.int .u8 t):=⟨_,kg M i 1 iL uK⟩;rw [hM1] at hgo0;rw [O'] at hgo1;rw [Z_ uK,O'] at hgp1;obtain⟨y0_,yf0_⟩:=hgo0;obtain⟨y1_,yf1_⟩:=hgp1;have y0:wr.drew.cell? ⟨m,i*4,none⟩=some (.int .u64 tm0):=y0_;have yf0:wr.drew.frozen? ⟨m,i*4,none⟩=false:=yf0_;have y1:(wr.drew.setCell ⟨m,i*4,none⟩ (.int .u64 (T:Int))).cell? ⟨m,i*4+1,none⟩=some (.int .u8 lv0):=y1_;have yf1:(wr.drew.setCell ⟨m,i*4,none⟩ (.int .u64 (T:Int))).frozen? ⟨m,i*4+1,none⟩=false:=yf1_;clear y0_ yf0_ y1_ yf1_;have ng:m≠g:=by rintro rfl;exact qT y kb FV _ (by simp [fpS]) rfl
   have nt_:m≠z.block:=λe=>xz y ot FV m (by simp [fpS]) (by simp [fpS,e]);have nl_:m≠A.block:=λe=>xz y ol FV m (by simp [fpS]) (by simp [fpS,e]);have hBs:Hid (Below W.heap.size W ((wr.drew.setCell ⟨m,i*4,none⟩ (.int .u64 (T:Int))).setCell ⟨m,i*4+1,none⟩ (.int .u8 (L:Int)))):=by
    have Q':=(FO y).1;exact(HB.drew.setCell (p:=⟨m,i*4,none⟩) Q' _).setCell (p:=⟨m,i*4+1,none⟩) Q' _
   have P2:Hid (((wr.drew.setCell ⟨m,i*4,none⟩ (.int .u64 (T:Int))).setCell ⟨m,i*4+1,none⟩ (.int .u8 (L:Int))).ownsRow W.heap.size 45 4 (.slice m o c9) o (ji (kL (x.times.drop n) (x.levels.drop n) (i+1) l))):=p2;have s4:wr.cell? ⟨g,4,none⟩=some (.slice (some z) O ct):=kb.cell 4;have s5:wr.cell? ⟨g,5,none⟩=some (.slice (some A) S cl):=kb.cell 5;have Y':Hid (∀(V:World) (j:Nat) (u:Value),V.cell? ⟨g,4,none⟩=some (.slice (some z) O ct)/\V.cell? ⟨g,5,none⟩=some (.slice (some A) S cl)/\V.cell? (z.add s)=some (.int .u64 (T:Int))/\V.cell? (A.add s)=some (.int .u8 (L:Int))->(V.setCell ⟨m,j,none⟩ u).cell? ⟨g,4,none⟩=some (.slice (some z) O ct)/\(V.setCell ⟨m,j,none⟩ u).cell? ⟨g,5,none⟩=some (.slice (some A) S cl)/\(V.setCell ⟨m,j,none⟩ u).cell? (z.add s)=some (.int .u64 (T:Int))/\(V.setCell ⟨m,j,none⟩ u).cell? (A.add s)=some (.int .u8 (L:Int))):=λV j u ⟨a,b,c,d⟩=>
    ⟨(cell_far V (p:=⟨m,j,none⟩) (q:=⟨g,4,none⟩) (Zi ng) u).trans a,(cell_far V (p:=⟨m,j,none⟩) (q:=⟨g,5,none⟩) (Zi ng) u).trans b,(cell_far V (p:=⟨m,j,none⟩) (q:=z.add s) (by rw [xF];exact Zi nt_) u).trans c,(cell_far V (p:=⟨m,j,none⟩) (q:=A.add s) (by rw [xF];exact Zi nl_) u).trans d⟩
   have hws:IntKind.i64.wrap ((n:Int)+(i:Int))=(s:Int):=by rw [hs,qU];omega
   have hws2:(n:Int)+(i:Int)=(s:Int):=uK;have hs0:=xi s;have hsnt':=j' s O;have hsnl':=j' s S;revert hs Z Y hws2;refine yl ?_;intro hs Z Y hws2;clear hM1 O' hgo1 p1 p2;clear kb ot ol y Z Y ng nt_ nl_;clear iL hu M' hg1 hg2;go_wp2_with fail;refine zv 30 (λV=>V.cell? ⟨g,4,none⟩=some (.slice (some z) O ct)/\V.cell? ⟨g,5,none⟩=some (.slice (some A) S cl)/\V.cell? (z.add s)=some (.int .u64 (T:Int))/\V.cell? (A.add s)=some (.int .u8 (L:Int))) AL ⟨s4,s5,S',Z'⟩ (λd'=> ?_);generalize wr.drew=wd at*;refine zq [0,1,2,3,4,5] (a':= ?_) ?_;refine zq [6,7,8,9,10,11] (a':= ?_) ?_;refine zq [12,13,14,15,16,17] (a':= ?_) ?_;refine zq [18,19,20,21,22,23] (a':= ?_) ?_;refine zq [24,25] (a':= ?_) ?_;refine carried 26 rfl AL SQ (λK U=> ?_);go_simp;skip;refine U _ _ ((Y' _ _ _ d')) (λd'=> ?_);clear U K;try simp only [Act.put,qQ,qY,qV]
   refine zq [27,28] (a':= ?_) ?_;refine carried 29 rfl AL SQ (λK U=> ?_);go_simp;skip;refine U _ _ ((Y' _ _ _ d')) (λd'=> ?_);clear U K;try simp only [Act.put,qQ,qY,qV]
   refine zV AL ?_ _;clear d' y0 yf0 y1 yf1 s4 s5 S' Z' Y';generalize (wd.setCell ⟨m,i*4,none⟩ (.int .u64 (T:Int))).setCell ⟨m,i*4+1,none⟩ (.int .u8 (L:Int))=w5 at*;go_wp2_with fail;refine xk ?_;exact⟨i+1,xb,uK,P2,hBs⟩
  ·obtain rfl:i=o:=uK;have Q':=vv i i;have HF:Hid (wr.ownsRow W.heap.size 45 4 (.slice A9 i c9) i (ji (tX (x.times.drop n) (x.levels.drop n) l))):=by
    have h:=y.out;rw [<-C.out,sV,C.out] at h;exact h
   have hfl2:Hid ((tX (x.times.drop n) (x.levels.drop n) l).length=i):=by
    rw [Hid,<-sV,sY];exact C.out
   clear y;go_wp2_with fail;go_ret2;rw [D.out];exact⟨A9,i,c9,hfl2.symm,rfl,HF,HB⟩
theorem Dh (b:qn) (size:Nat): ∀(l:List Nat) (n:Nat) (c:Cu) (a:List qn),(yr b size n l c a).2.1.length<=a.length+n
 |[],n,c,a=>by
  rw [YF];split
  ·exact qp _
  ·exact Jk _ _
 |k::t,n,c,a=>by
  unfold yr;split
  ·exact qp _
  ·split
   ·exact qp _
   ·have h1:=Dh b size t (n-size) (jW b k c).2 (QV (jW b k c).1 (min size n) true ⟨0,0⟩ a).2
    have h2:=kW (jW b k c).1 (min size n) true ⟨0,0⟩ a;omega
theorem TE (size:Int) (b:qn):(D0 size b).2.1.length<=1048576:=by
 unfold D0;split
 ·exact qp _
 ·dsimp only;have h1:=vX b 1048576 ⟨0,0⟩ uK;have h2:=Dh b size.toNat (Q5 b (((jU b 1048576 ⟨0,0⟩).1+size.toNat-1)/size.toNat) (jU b 1048576 ⟨0,0⟩).2 []).1 (jU b 1048576 ⟨0,0⟩).1 (Q5 b (((jU b 1048576 ⟨0,0⟩).1+size.toNat-1)/size.toNat) (jU b 1048576 ⟨0,0⟩).2 []).2 [];rw [zF] at h2;omega
theorem DH (c:Nat): ∀(n:Nat) (b:qn) (a:List (List Nat)),(yR c n b a).2.length<=a.length+n
 |0,b,a=>by
  unfold yR;split
  ·exact qx _
  ·exact qp _
 |n+1,b,a=>by
  rw [kN];split
  ·exact qp _
  ·split
   ·exact qp _
   ·have:=DH c n (b.drop (dw c b).2.2) (a++[(dw c b).2.1])
    rw [qK,zJ] at this;omega
theorem Tr (size:Int) (a:Nat) (b:qn):(Fs size a b).2.1.length<=1048576/\(Fs size a b).2.2.length<=1048576:=by
 unfold Fs;have h:=TE size b;split
 ·exact⟨qp _,qp _⟩
 ·dsimp only;split
  ·exact⟨qp _,qp _⟩
  ·split
   ·exact⟨qp _,qp _⟩
   ·refine⟨h, ?_⟩;have:=DH (a:Int).toNat (D0 size b).2.1.length (b.drop (D0 size b).2.2) [];rw [zF] at this;dsimp only;omega
theorem rU (o:Opt) (b:qn):(Zo o b).2.vO.length<=1048576/\(Zo o b).2.lists.length<=1048576:=by
 unfold Zo;dsimp only;have a:([]:List qn).length<=1048576/\([]:List (List Nat)).length<=1048576:=⟨qp _,qp _⟩;split
 ·exact a
 ·split
  ·exact a
  ·split
   ·exact a
   ·split
    ·exact a
    ·split
     ·exact a
     ·split
      ·exact a
      ·exact Tr _ _ _
theorem rD {l:List Rec} (h:xu l=0):l.length<=20000/\(∀r∈l,r.src.length<=4000/\r.txt.length<=4000)/\p8 l<=1048576:=by
 unfold xu at h;split at h
 ·cases h
 ·rename_i b;refine⟨uK,λr a=> ?_,uK⟩;have h2: ¬l.any X8=true:=λe=>b (.inr (.inl e));rw [ZQ] at h2;have h3: ¬X8 r=true:=λe=>h2 ⟨r,a,e⟩;unfold X8 at h3;simp only [J3,zd,not_or] at h3;omega
theorem Nj (x:ks) (k:Nat) (h:(V5 x k).1=0):(V5 x k).2.length=x.dir.counts.getD k 0:=by
 unfold V5 at h⊢;dsimp only at h⊢;split at h
 ·rename_i h1;exact absurd h h1
 ·rename_i h1;rw [qJ h1];split at h
  ·cases h
  ·rename_i h2;rw [qJ h2];split at h
   ·rename_i h3;exact absurd h h3
   ·rename_i h3;rw [qJ h3];split at h
    ·cases h
    ·rename_i h4;rw [qJ h4];show(tX _ _ _).length=_;unfold tX;rw [List.length_mapIdx];exact yQ h4
theorem BI (t:qn): ∀(i:Nat) (l:List Rec),(pF t i l).length<=l.length
 |i,[]=>qx _
 |i,r::l=>by
  rw [show pF t i (r::l)=if t∈kp r then i::pF t (i+1) l else pF t (i+1) l from rfl,qf]
  have:=BI t (i+1) l;split
  ·rw [qf];omega
  ·omega
theorem Nx (l:List Rec) (a: ∀r∈l,r.src.length<=4000/\r.txt.length<=4000):(P0 l).1.length<=10000*l.length/\(P0 l).2.length<=10000*l.length/\ ∀x∈(P0 l).2,x.length<=l.length:=by
 have h1:=PE ((l.map kp).flatten) [];have h2:=Ku 0 l a;have h3:((l.map kp).flatten).length=(jl 0 l).length:=by rw [<-dC 0 l,zH]
 rw [zF,h3] at h1;have h4:(Y5 l).length<=10000*l.length:=by unfold Y5 Fb;omega
 refine⟨h4,by show((Y5 l).map _).length<=_;rw [zH];exact h4,λx b=> ?_⟩;obtain⟨t,_,rfl⟩:=jB.1 b;exact BI t 0 l
theorem Tt (x:ks) (k:Nat) (a:List Rec):VF x 0 k a=if xu a≠0 then(6,[]) else if(x.vO,x.lists)≠P0 a then(15,[]) else(0,a):=rfl
theorem Tw (x:ks) (f k:Nat) (a:List Rec):VF x (f+1) k a=if(V5 x k).1≠0 then((V5 x k).1,[]) else VF x f (k+1) (a++(V5 x k).2):=rfl
theorem rF (W:World) (base g:Nat) (x:ks) (ht:Tab W) (h:Bdy W base g x) (ok:Tc x) (hfr: ∀f∈x.JB,f.length<=100000000) (ht2:x.vO.length<=1048576) (hl2:x.lists.length<=1048576):
  Calls prog 80 #[.pointer g] W (Bi W (F2 x)):=by
 have HBD:=qj (λO (z:Below W.heap.size W O)=>h.below z);obtain⟨A0,n0,c0,A1,n1,c1,At,nt,ct,Al,nl,cl,Ax,nx,cx,Ay,ny,cy,Af,n,cf,v9,⟨e0,e1,et,el,ex,ey,ef⟩,Q,-,-,-,h4,h5,-,-⟩:=h;have HWB:=qj (λO (z:Below W.heap.size W O)=>And.intro (Q.below z Q.lt) (And.intro (qG h4 z) (h5.below z)));have HT:=qj (λO (z:Below W.heap.size W O)=>ht.below z ht.pos);have q8:W.cell? ⟨g,8,none⟩=some (.slice Af n cf):=Q.cell 8;obtain⟨R,B⟩: ∃R,R=F2 x:=⟨_,rfl⟩;rw [<-B];unfold F2 at B;rw [<-ef] at B;replace B:Hid (VF x n 0 []=R):=B.symm;have z':=qj ok;have HFR:=qj hfr;obtain⟨i0,hi,m',OX,N'⟩:=qA PH;replace hi:=qj hi;replace m':=qj m';replace OX:=qj OX;replace N':=qj N';have hnf:n<=20000:=by have:=ok.few;have:=ok.JB;omega
 replace ef:=qj ef;replace ex:=qj ex;replace ey:=qj ey;have hGl:=qj Q.lt;clear h4 h5 Q ok hfr ht e0 e1 et el;go_enter func80,ntmps80
 go_wp2_with fail;go_loopw [4,16] (λv4 J' wr=> ∃(k f m C:Nat) (w:Option Addr) (i:List Rec),v4= .slice w m C/\J'=(k:Value)/\k+f=n/\m<=20000*k/\Hid (m=i.length)/\Hid (VF x f k i=R)/\Hid (wr.ownsRow W.heap.size 45 4 (.slice w m C) m (ji i))/\Hid (Below W.heap.size W wr)) (λ_ J' _=>n-(intOf J').toNat)
 case atStart=>exact⟨0,n,0,0,none,[],rfl,rfl,uK,qp _,rfl,B,qP _ _ _ _,qZ _ _⟩
 case round=>
  clear q8 B;obtain⟨k,f,m,C,w,i,rfl,rfl,hkf,hm,v,N,P,j⟩:=hrel;by_cases hlt:k<n
  ·have hlt':(k:Int)<(n:Int):=uK
   obtain⟨f,rfl⟩: ∃f',f=f'+1:=⟨f-1,uK⟩;have G:=GI wr base g k x (HT.out wr j) (HBD.out wr j) z' (by rw [<-ef.out];exact hlt) HFR.out
   have b:=N.out;rw [Tw] at b;have iL:=Nj x k;have hcs:x.dir.counts.getD k 0<=20000:=by
    rw [qd];cases hx:x.dir.counts[k]?with
    |none=>exact qp _
    |some a=>exact z'.small a (zQ hx)
   unfold Bi at G;generalize V5 x k=r at*
   obtain⟨E,l⟩:=r;dsimp only at b G iL;replace G:=qj G;replace b:=qj b;replace iL:=qj iL;clear N
   go_wp2_with fail;refine G.mono ?_;rintro e w1 ⟨A5,D,c5,U,rfl,ho5,G'⟩;have S:=qj (j.trans (G'.mono j.size));have D':=qj (qG P G');have HL1:=qj (Reads.zY ho5);have U':Hid (W.heap.size<=w1.heap.size):=S.size;replace U:=qj U;clear G ho5 G' P j;by_cases M:E=0
   case neg=>
    have A:Hid (R=(E,[])):=by rw [Hid,<-b.out,qk M]
    have hEz:(E==0)=false:=by simpa using M
    have hEn:(E !=0)=true:=by simpa using M
    replace M:=qj M;clear b
    go_wp2_with fail
    go_ret2;rw [A.out];exact⟨none,0,0,rfl,rfl,qP _ _ _ _,S.out⟩
   subst M;have Y:=b.out;rw [qJ s8] at Y;replace Y:=qj Y;have hl20:D<=20000:=by have:=iL.out rfl;have:=U.out;omega
   have hm1:m+D<=maxLen:=SJ;have hm2:(m+D)*48<=140737488355328:=uK;have d': ∀u∈ji l,u.oneCell'=true:=λu hu=>by
    unfold ji at hu;obtain⟨x,hx,hux⟩:=List.mem_flatten.1 hu;obtain⟨t,-,rfl⟩:=jB.1 hx;exact tS t u hux
   replace d':=qj d';clear b
   go_wp2_with (at_builtin;refine qF _ rfl (.tmp 28) (.tmp 29) 24 rfl W.heap.size 45 i0 (.agg #[.int .u64 0, .int .u8 0, .string "".toUTF8, .string "".toUTF8]) 4 48 QL hi m' OX N' rfl uK w m C _ rfl D' w1 A5 D c5 _ rfl HL1 d' hm1 hm2 U' ?_;intro A6 c6 w4 X hg4 _hs4;have J:=qj (zG S hg4 D' U');rw [<-pR] at X;replace X:=qj X;clear hg4 _hs4)
   have hM2:Hid (m+D=(i++l).length):=by rw [Hid,qK,v.out,U.out]
   clear D' S HL1 d' U';go_roundw
   case rel=>exact⟨k+1,f,m+D,c6,A6,i++l,by first|rfl|simp,by first|rfl|simp,uK,uK,hM2,Y,X,J⟩
   case measure=>simp [intOf];omega
  ·obtain rfl:k=n:=uK
   obtain rfl:f=0:=uK;have hge: ¬(k:Int)<(k:Int):=uK;have b:=N.out;rw [Tt] at b;have o:=JW w C wr i wr (by rw [<-v.out];exact Reads.zY P) (qx _) (by have:=v.out;omega)
   rw [<-v.out] at o;replace o:=qj o;by_cases s:xu i=0
   case neg=>
    have A:Hid (R=(6,[])):=by rw [Hid,<-b,qk (by simpa using s)]
    have h6:xu i=6:=by
     revert s;unfold xu;split<;>simp
    rw [h6] at o;clear N b h6 s
    go_wp2_with fail;refine o.mono ?_;rintro e c ⟨rfl,F⟩;have L:=qj (j.trans (F.mono j.size));clear o F
    go_wp2_with fail
    go_ret2;rw [A.out];exact⟨none,0,0,rfl,rfl,qP _ _ _ _,L.out⟩
   rw [s] at o;rw [qJ (by simpa using s)] at b
   obtain⟨ck1,ck2,-⟩:=rD s;have P':=Nx i ck2;replace b:=qj b;replace s:=qj s;clear N
   go_wp2_with fail;refine o.mono ?_;rintro e c ⟨rfl,F⟩;have L:=qj (j.trans (F.mono j.size));have p':=qj (qG P F);have hdr:Below c.heap.size c c.drew:=(qZ _ _).drew;have y:=ux w C c.heap.size i c.drew (by rw [<-v.out];exact(Reads.zY p').drew) hdr.size ck1 ck2
   rw [<-v.out] at y;unfold oY at y;generalize P0 i=bu at*
   obtain⟨bt,bl⟩:=bu;dsimp only at y P';obtain⟨kb,hx4,X'⟩:=HWB.out c.drew L.drew;have Z:c.drew.cell? ⟨g,6,none⟩=some (.slice Ax nx cx):=kb.cell 6;have s7:c.drew.cell? ⟨g,7,none⟩=some (.slice Ay ny cy):=kb.cell 7;have I:Hid (g<c.drew.heap.size):=kb.lt;replace y:=qj y;have KSm:=qj (λH (d:Below c.drew.heap.size c.drew H) u' S' I' N6 Y' M' h3 h4 (q1:I'=bt.length)=>Cl Ax Ay u' S' nx cx ny cy I' N6 Y' M' H.heap.size H.heap.size x.vO bt x.lists bl H (qx _) (qx _) (Reads.zY (qG hx4 d)) ((X'.below d).rows) h3 h4 (by have:=ex.out;omega) (by have:=ey.out;omega) (by have:=P'.1;omega) (λa ha=>qv (z'.lists a ha) FV) (λa ha=>qv (P'.2.2 a ha) uK))
   clear o F j P hx4 X' kb hdr
   go_wp2_with fail;refine zv 8 (λV=>V.cell? ⟨g,6,none⟩=some (.slice Ax nx cx)/\V.cell? ⟨g,7,none⟩=some (.slice Ay ny cy)) AL ⟨Z,s7⟩ (λN9=> ?_)
   generalize hwd:c.drew=wd at*
   refine zq [0,1,2,3,4] (a':= ?_) ?_;refine vf 5 y ?_;rintro e H ⟨u',I',N6,S',Y',M',⟨q1,q2⟩,rfl,ho3,hi3,d⟩;refine⟨_,rfl,(⟨(d.cell (p:=⟨g,6,none⟩) I).trans Z,(d.cell (p:=⟨g,7,none⟩) I).trans s7⟩),λN9=> ?_⟩;subst q1;subst q2;have Q':=KSm.out H d u' S' _ N6 _ M' (Reads.zY ho3) hi3.rows rfl;generalize T:decide ((x.vO,x.lists)=(bt,bl))=dd at Q';refine carried 6 rfl AL SQ (λK hK=> ?_);go_simp
   (go_at_call 116;((refine(Q').mono ?_);rintro e w4 ⟨rfl,J⟩))
   refine hK _ _ (⟨(J.cell (p:=⟨g,6,none⟩) (qB I d.size)).trans ((d.cell (p:=⟨g,6,none⟩) I).trans Z),(J.cell (p:=⟨g,7,none⟩) (qB I d.size)).trans ((d.cell (p:=⟨g,7,none⟩) I).trans s7)⟩) (λN9=> ?_);clear hK K;try simp only [Act.put,qQ,qY,qV]
   refine zq [7] (a':= ?_) ?_;refine zV AL ?_ _;subst hwd;have O':Below c.heap.size c w4:=((qZ _ c).drew.trans d).trans (J.mono d.size);have Z':=qj (L.trans (O'.mono L.size));have HO4:=qj (qG p' O');clear y KSm Q' ho3 hi3 d J O' Z s7 N9 p' L;by_cases q:(x.vO,x.lists)=(bt,bl)
   ·have A:Hid (R=(0,i)):=by rw [Hid,<-b.out,qJ (by simpa using q)]
    rw [qw q] at T;subst T;replace q:=qj q;clear b
    go_wp2_with fail
    go_ret2;rw [A.out];exact⟨w,m,C,v.out,rfl,HO4.out,Z'.out⟩
   ·have A:Hid (R=(15,[])):=by rw [Hid,<-b.out,qk q]
    rw [qc q] at T;subst T;replace q:=qj q;clear b
    go_wp2_with fail
    go_ret2;rw [A.out];exact⟨none,0,0,rfl,rfl,qP _ _ _ _,Z'.out⟩
end Go.Proofs.YtfnlfpcfkbdcmaaGreatDoor
