import Derived.Test.YtfnlfpcfkbdcmaaGreatDoorT06
import Derived.Test.YtfnlfpcfkbdcmaaGreatDoorT08
set_option linter.unusedSimpArgs false
set_option linter.unusedVariables false
set_option maxRecDepth 100000
set_option maxHeartbeats 0
open Go.Proofs.Tryz
namespace Go.Proofs.YtfnlfpcfkbdcmaaGreatDoor
section
open Go.RowKit
variable {A:q'}{P:Program}{W W' w:I}{args:Array la}{at_ cap g n:O}{b:qn}{f:FuncId}{l:S O}{v:la}
theorem iN {w:I} {base base':O} {e:TypeId} {size:O} {v:la} {n:O} {a:S la} (h:xp w base e size v n a) (d:base'<=base):xp w base' e size v n a:=
 ⟨h.1,h.2.imp id λ⟨g,cap,cur,b,c,r⟩=>⟨g,_,_,b,qv d c,r⟩⟩
theorem bz (k m:O) (w:I) (q:k+m<=255):xG 102 #[k,m] w (Ps w m k (zP k (Vq k) (m*k)) 0):=by
 have H:=VI k;rw [show aj (k:V)=true by unfold aj;simp;omega] at H;have b:=VI m;rw [show aj (m:V)=true by unfold aj;simp;omega] at b;replace H:=λw=>T (H w);replace b:=λw=>T (b w);have B:=(jb YE).1;have C:=λ(W:I) (p:O) (x:p<(W:O)) (A:i' W p=J (k:la))=>AQ m k _ W M M (λi j s hi y z=>AJ k m i j p s q hi y ((z.cell (p:= p) x).trans A));replace C:=T C;have o:=yj k (Vq k) (m*k);unfold Ps;rw [o];clear o;generalize m*k=E at*;go_in;go_wp2_with fail;refine Ω (H _).out ?_;go_wp2_with fail;refine Ω (b _).out ?_;go_wp2_with fail;have l:i' ((w (Y #[k] 3)) (Y #[(),(),z8] 154)) (w:O)=J (k:la):=(show F' _ _ 3 #[k] from(F'.new w _ _).alloc _).cell 0;have u:(w:O)<((w (Y #[k] 3)) (Y #[(),(),z8] 154):O):=SZ;have d:F' ((w (Y #[k] 3)) (Y #[(),(),z8] 154)) ((w:O)+1) 154 (mC 0 0 z8):=by
  have h:=F'.new (w (Y #[k] 3)) 154 (mC 0 0 z8);simpa [mC] using h
 have c:r' (w:O) w ((w (Y #[k] 3)) (Y #[(),(),z8] 154)):=(j1 _).alloc s8 _;generalize (w (Y #[k] 3)) (Y #[(),(),z8] 154)=v at*;refine(C v _ u l).mono ?_;rintro e D ⟨a,c2,rfl,n,f⟩;have g:=T (d.below f d.lt);have r:=T (c.trans (f.mono c.size));have t:=T (iN n c.size);clear d c f n l;go_wp2_with (refine qC rfl 154 _ _ rfl ((w:O)+1) (mC m k (Z a _ c2)) rfl rfl 154 (mC 0 0 z8) g j9 rfl (Jb _ _ _ _ _) ?_);exact qW (zN rfl _ _ _ _ _ rfl rfl (qN _ _ _ _ _ _ _ (g.row _) zL rfl j9)) rfl ⟨a,_,rfl,ZJ t g _,zu r (jv _) _⟩
structure Rd (W:I) (g:O) (A:q') (n cap:O) (b:qn) (at_:O):Prop where
 blk:F' W g 407 #[Z A n cap,((8*n:O):V),at_]
 own:xp W 0 5 1 (Z A n cap) n (b.map B8)
 le:at_<=8*n
 lim:n<=1000000000
theorem Rd.len (h:Rd W g A n cap b at_):U b=n:=by have:=h.own.1;simpa using this
theorem Rd.jZ (h:Rd W g A n cap b at_) (a:qE l W W') (d:g∉l) (c: ∀k∈K' A,k∉l):Rd W' g A n cap b at_:=⟨a.blk h.blk d,a.own h.own c,h.le,h.lim⟩
theorem Rd.fresh (h:Rd W g A n cap b at_) (a:r' W W W'):Rd W' g A n cap b at_:=h.jZ (qE.jq (l:=[]) a) s8 s8
theorem Rd.dr (h:Rd W g A n cap b at_) (a:Dr W W'):Rd W' g A n cap b at_:=h.fresh (a.below _)
theorem Rd.fp (h:Rd W g A n cap b at_): ∀k∈K' A,k≠g:=qT h.own h.blk FV
theorem Rd.VH (h:Rd W g A n cap b at_):i' W g=J (Z A n cap):=h.blk.cell 0
theorem Rd.V9 (h:Rd W g A n cap b at_):i' W ⟨g,1,none⟩=J (((8*n:O):V):la):=h.blk.cell 1
theorem Rd.XZ (h:Rd W g A n cap b at_):i' W ⟨g,2,none⟩=J (at_:la):=h.blk.cell 2
theorem Rd.setAt (h:Rd W g A n cap b at_) (a:O) (c:a<=8*n):Rd (W.setCell ⟨g,2,none⟩ a) g A n cap b a:=
 ⟨h.blk.zh 2 _,(qE.refl [g] W|>.zh (p:=⟨g,2,none⟩) (qy.2 rfl) a).own h.own (λk d=>by simp [h.fp k d]),c,h.lim⟩
def JD (W:I) (g:O) (A:q') (n cap:O) (b:qn) (v:la) (at_:O) (e:Ending) (a:I):Prop:=e=t' v/\Rd a g A n cap b at_/\qE [g] W a
theorem Zp {W a:I} {l:S O} (h:Dr W a):qE l W a:=qE.jq (h.below _)
theorem P7 (A:q') (n c B:O) (bs:qn) (w:I) (h:E' w B 1 A n (bs.map B8)) (p:B<=(w:O)) (l:n<=1000000000):
  xG 266 #[Z A n c] w λe w'=> ∃g f j,e=t' (mJ (some ⟨g,0,none⟩))/\Rd w' g f n j bs 0/\(w:O)<=g/\(∀k∈K' f,(w:O)<=k)/\r' w w w':=by
 have b:=T (yV A n c B _ w h p M);unfold jQ at b;clear h;go_in;go_wp2_with fail;refine b.mono ?_;rintro e d ⟨m,c1,rfl,i⟩;have a:=T i;clear i;go_wp2;go_ret;refine⟨d,m,c1,rfl,⟨?_,qi (qG a.out.1 (j1 _)) (qp _),qp _,l⟩,a.out.2.size,λk o=>(zj a.out.1 k o).1,a.out.2.alloc a.out.2.size _⟩;first|exact F'.new d _ _|(rw [show((8*n:O):V)=8*(n:V) by omega];exact F'.new d _ _)
theorem XV (W:I) (g:O) (A:q') (n cap at_:O) (b:qn) (h:Rd W g A n cap b at_):
  xG 273 #[mJ g] W λe W'=>e=t' (e' (kq b at_))/\Dr W W':=by
 have a:((kq b at_:O):V)=((8*n:O):V)-(at_:V):=by unfold kq;rw [h.len];have:=h.le;omega
 have c1:=h.V9;have c2:=h.XZ;have h3:=h.le;have h4:=h.lim;rw [a];clear h a;have h5:8*n<=8000000000:=M;generalize 8*n=m at*;have c:DW ((m:V)-(at_:V))=(m:V)-(at_:V):=SX;go_wp2;go_quiet (fail);go_wp2;go_ret;exact⟨rfl,⟨_,rfl⟩⟩
theorem Kj {n:O} (h:Calls P f args (w.drewN n) λe w'=>e=t' v/\w.drewN n=w'):Calls P f args (w.drewN n) λe w'=>e=t' v/\ ∃m,w'=w.drewN m:=
 h.mono λ_ _ ⟨a,b⟩=>⟨a,n,b.symm⟩
theorem Uf {n:O} (h:Calls P f args (w.drewN n) λe w'=>e=t' v/\Dr (w.drewN n) w'):Calls P f args (w.drewN n) λe w'=>e=t' v/\ ∃m,w'=w.drewN m:=
 h.mono λ_ _ ⟨a,m,b⟩=>⟨a,n+m,by rw [b,World.drewN_drewN]⟩
theorem Rd.drewN {W:I} {g n cap at_:O} {A:q'} {b:qn} (h:Rd W g A n cap b at_) (k:O):Rd (W.drewN k) g A n cap b at_:=h.dr ⟨k,rfl⟩
theorem pE (W:I) (g:O) (A:q') (n cap at_ k a:O) (b:qn) (h:Rd W g A n cap b at_) (d:k<=64) (c:a<=8000000000):
  xG 287 #[mJ g,a,k] W λe W'=>e=t' (.int .u64 (kM b a k))/\W=W':=
 Ga W g W A n _ a k _ b h.VH h.V9 rfl (E'.zY h.own) h.lim d c
theorem UF (W:I) (g:O) (A:q') (N cap at_:O) (b:qn) (n:V) (h:Rd W g A N cap b at_):
  xG 274 #[mJ g,n] W (JD W g A N cap b (BA #[.int .u64 (tn b at_ n),e' (CI b at_ n)]) (ti b at_ n)):=by
 have H:=T h;have j:=T (XV W g A N cap at_ b h);have o:=h.len;have u:=h.le;have s:=h.lim;clear h;by_cases h1:n<0\/64<n
 ·have d:CI b at_ n=13:=qk h1;unfold tn ti;rw [d,qJ FV,qJ FV];rcases h1 with h1|h1
  ·go_wp2;go_ret2;exact⟨rfl,H,qE.refl _ _⟩
  ·have h0: ¬n<0:=M;go_wp2;go_ret2;exact⟨rfl,H,qE.refl _ _⟩
 ·obtain⟨k,rfl⟩: ∃k:O,n=(k:V):=⟨n.toNat,M⟩;have r:k<=64:=M;by_cases h2:(kq b at_:V)<(k:V)
  ·have d:CI b at_ k=1:=by unfold CI;rw [qJ h1,qk h2]
   unfold tn ti;rw [d,qJ FV,qJ FV];generalize kq b at_=lf at*;clear u s h1;go_in;go_wp2_with fail;refine zC j ?_;intro c a;replace a:=T a;go_wp2;go_ret2;exact⟨rfl,H.dr a,Zp a⟩
  ·have d:CI b at_ k=0:=by unfold CI;rw [qJ h1,qJ h2]
   unfold tn ti;rw [d,qk rfl,qk rfl,show(k:V).toNat=k from rfl];have q:at_+k<=8*N:=by unfold kq at h2;rw [o] at h2;omega
   have z:wrap64 ((at_:V)+(k:V))=(at_:V)+(k:V):=yT _ ⟨M,M⟩;have f:=λc (t:Rd c g A N cap b at_)=>pE c g A N cap at_ k at_ b t r M;replace f:=T f;generalize kq b at_=lf,kM b at_ k=w at*;clear h1 d;go_in;go_wp2_with fail;refine zC j ?_;intro c a;have i:=T (H.dr a);have m:=T (Zp (l:=[g]) a);have c2:=i.out.XZ;clear a;go_wp2;go_quiet ((go_at_call 287;exact Kj (f.out _ (i.out.drewN _))));have R2:=T (i.drewN nq);have v:=T (m.drewN nq);generalize c.drewN nq=x at*;have c2:=R2.out.XZ;have y:=R2.blk.frozen 2;go_wp2;go_ret2;exact⟨rfl,R2.setAt (at_+k) q,v.zh (p:=⟨g,2,none⟩) (qy.2 rfl) _⟩
end
section
open Go.RowKit
variable {A:q'}{B n:O}{l:S (V×V×qn)}{w:I}
def bY (w:I) (B:O) (A:q') (n:O) (l:S (V×V×qn)):Prop:=
 U l=n/\(0<n-> ∃a,A=some a/\a.block<B/\ ∀(i:O) (hi:i<U l),∃(Ai:q') (b c:O),i' w (a.add (i*3))=J (e' l[i].1)/\i' w (a.add (i*3+1))=J (e' l[i].2.1)/\i' w (a.add (i*3+2))=J (Z Ai b c)/\b<=c/\E' w B 1 Ai b (l[i].2.2.map B8))
theorem bY.below {w':I} (h:bY w B A n l) (c:r' B w w'):bY w' B A n l:=by
 refine⟨h.1,λf=> ?_⟩;obtain⟨a,e,d,g⟩:=h.2 f;refine⟨a,e,d,λi hi=> ?_⟩;obtain⟨Ai,m,j,h0,h1,h2,h3,h4⟩:=g i hi;have b:=λk=>c.cell (p:=a.add k) (by rw [xF];exact d);exact⟨Ai,m,j,(b _).trans h0,(b _).trans h1,(b _).trans h2,h3,h4.below c⟩
theorem bY.row (h:bY w B A n l) (j:O) (g:j<U l): ∃a,A=some a/\a.block<B/\ ∃(Ai:q') (b c:O),i' w (a.add (j*3))=J (e' l[j].1)/\i' w ⟨(a.add (j*3)).block,(a.add (j*3)).off+1,none⟩=J (e' l[j].2.1)/\i' w ⟨(a.add (j*3)).block,(a.add (j*3)).off+2,none⟩=J (Z Ai b c)/\b<=c/\E' w B 1 Ai b (l[j].2.2.map B8):=by
 obtain⟨a,f,e,d⟩:=h.2 (by have:=h.1;omega);obtain⟨Ai,b,c,h0,h1,h2,h3,h4⟩:=d j g;rw [<-QZ,show(a.add (j*3)).add 1=⟨(a.add (j*3)).block,(a.add (j*3)).off+1,none⟩ from rfl] at h1;rw [<-QZ,show(a.add (j*3)).add 2=⟨(a.add (j*3)).block,(a.add (j*3)).off+2,none⟩ from rfl] at h2;exact⟨a,f,e,_,b,c,h0,h1,h2,h3,h4⟩
def Q6 (C:V):S (V×V×qn)->O->qn->Option (O×qn)
 |[],R,a=>some (R,a)
 |m::t,R,a=>if Hw m.1 m.2.1 (U m.2.2)=true/\m.2.1=C/\(R:V)+m.1<=255 then Q6 C t (R+m.1.toNat) (a++m.2.2) else none
def pU (l:S (V×V×qn)):Int:=match l with
 |[]=>0
 |m::_=>m.2.1
theorem cE (C:V) (l:S (V×V×qn)) (j:O) (b:j<U l) (R:O) (a:qn):Q6 C (l.drop j) R a=if Hw l[j].1 l[j].2.1 l[j].2.2.length=true/\l[j].2.1=C/\(R:V)+l[j].1<=255 then Q6 C (l.drop (j+1)) (R+l[j].1.toNat) (a++l[j].2.2) else none:=by
 rw [zK b];rfl
theorem AN (l:S (V×V×qn)) (a:0<U l):pU l=l[0].2.1:=by
 match l,a with
 |m::_,_=>rfl
theorem Sv (A:q') (n k:O) (l:S (V×V×qn)) (w:I) (hn:n<=20) (h:bY w w A n l) (P0:Ending->I->Prop)
  (hS: ∀R g,Q6 (pU l) l 0 []=J (R,g)-> ∀C:O,pU l=C-> ∀e w',Ps w R C g 0 e w'->P0 e w') (P:Q6 (pU l) l 0 []=none-> ∀e w',Ps w 0 0 [] 13 e w'->P0 e w'):
  xG 278 #[Z A n k] w P0:=by
 have hl:=h.1;have hz:=(jb YE).1;obtain⟨i0,hi,G',I',J'⟩:=xt xR;replace hS:=T hS;replace P:=T P;have L:=T hl;have H:=T h;have uK:=λr c A n k W=>T (cG r c A n k W);unfold mC at uK;have Z0:=T (AN l);obtain⟨a,N6⟩:=zn (pU l);rw [<-N6] at hS P Z0;have ZN:G (U l=0->a=0):=λh=>by rw [N6,zl h];rfl
 clear h hl N6;go_in;go_wp2_with fail;have S':F' ((w (Y #[(),(),z8] 154)) (Y #[(),(),z8] 154)) w 154 (mC 0 0 z8):=(F'.new w _ _).alloc _;have z:F' ((w (Y #[(),(),z8] 154)) (Y #[(),(),z8] 154)) ((w:O)+1) 154 (mC (0:O) 0 z8):=by
  have h:=F'.new (w (Y #[(),(),z8] 154)) 154 (mC 0 0 z8);simpa [mC] using h
 have hB:=((qZ w w).alloc (qx _) (Y #[(),(),z8] 154)).alloc s8 (Y #[(),(),z8] 154);generalize (w (Y #[(),(),z8] 154)) (Y #[(),(),z8] 154)=w3 at*;revert S' z hB;refine vn ?_;intro S' z hB;go_loopw [9] (λv9 wr=> ∃(j f R m:O) (i:q') (g:qn) (cv:V),v9=(j:la)/\j<=n/\R<=255/\m<=R*255/\G (j=0->cv=0)/\G (0<j->cv=a/\0<=a)/\G (r' w w wr)/\G (F' wr w 154 (mC 0 0 z8))/\G (F' wr ((w:O)+1) 154 (mC R cv (Z i m f)))/\G (xp wr w 5 1 (Z i m f) m (g.map B8))/\G (Q6 a (l.drop j) R g=Q6 a l 0 [])) (λv9 _=>n-(intOf v9).toNat)
 ·exact⟨0,0,0,0,none,[],0,rfl,M,M,M,λ_=>rfl,λh=>absurd h M,hB,S',z,qP _ _ _ 1,rfl⟩
 ·obtain⟨j,f,R,m,i,g,cv,rfl,hjn,hR,hmR,Hc0,Hc1,HB,m',ih,HO,cL⟩:=hrel;by_cases hlt:j<n
  ·have hlt':(j:V)<n:=M;have Y':j<U l:=by rw [L.out];exact hlt
   obtain⟨ad,rfl,adb,Ai,b,F,e0,e1,e2,hnc,iL⟩:=(H.below HB).row j Y';have t:=T (cE a l j Y' R g);have Z00:G (j=0->a=l[j].2.1):=λh=>by subst h;exact Z0 Y'
   have hni:=T iL.len;replace iL:=T iL;rw [hni.out] at t;generalize l[j].1=r,l[j].2.1=c,l[j].2.2=bs at*;have hgw:=ih.lt;obtain⟨W,u⟩:=zn ((if j=0 then(wr.setCell ⟨(w:O)+1,1,none⟩ c).alloc (Y #[r,c,Z Ai b F] 154) else wr (Y #[r,c,Z Ai b F] 154)));have p':G (r' w w W/\r' w wr W/\F' W w 154 (mC 0 0 z8)/\F' W ((w:O)+1) 154 (mC R a (Z i m f))/\F' W (wr:O) 154 (mC r c (Z Ai b F))/\xp W w 5 1 (Z i m f) m (g.map B8)):=by
    by_cases Q:j=0
    ·rw [qk Q] at u;rw [u];have hz:(wr.setCell ⟨w.heap.size+1,1,none⟩ c:O)=(wr:O):=s8;have hb6:=F'.new (wr.setCell ⟨(w:O)+1,1,none⟩ c) 154 #[r,c,Z Ai b F];rw [hz] at hb6;refine⟨zi (HB.setCell (p:=⟨(w:O)+1,1,none⟩) (jv _) _) _,((qZ _ _).setCell (p:=⟨(w:O)+1,1,none⟩) (jv _) _).alloc (by rw [hz];omega) _,(m'.far (p:=⟨(w:O)+1,1,none⟩) (vV (ze _)) _).alloc _, ?_,hb6,(XG (j:=1) HO ih _).alloc _⟩;rw [Z00.out Q];exact(ih.zh 1 c).alloc _
    ·rw [qJ Q] at u;rw [u];refine⟨zi HB _,(qZ _ _).alloc M _,m'.alloc _, ?_,F'.new wr _ _,HO.alloc _⟩;rw [<-(Hc1 M).1];exact ih.alloc _
   have k41:=ih.cell 1;have kf41:=ih.frozen 1;simp only [mC,qR,qt,yN] at k41;have HM:=T (λW=>uK r c Ai b F W);have Q0:G (∀ln,r' (W:O) W ln->r' w w ln/\r' w wr ln/\F' ln w 154 (mC 0 0 z8)/\F' ln ((w:O)+1) 154 (mC R a (Z i m f))/\F' ln (wr:O) 154 (mC r c (Z Ai b F))/\xp ln w 5 1 (Z i m f) m (g.map B8)):=λln iv=>by
    obtain⟨a1,a0,a2,a3,a4,a5⟩:=p'.out;exact⟨zX a1 iv,a0.trans (iv.mono a1.size),a2.below iv a2.lt,a3.below iv a3.lt,a4.below iv a4.lt,qG a5 iv⟩
   obtain⟨f0,f1,f2⟩:i' W (wr:O)=J (r:la)/\i' W ⟨(wr:O),1,none⟩=J (c:la)/\i' W ⟨(wr:O),2,none⟩=J (Z Ai b F):=⟨p'.out.2.2.2.2.1.cell 0,p'.out.2.2.2.2.1.cell 1,p'.out.2.2.2.2.1.cell 2⟩;replace iL:=T (λln iv=>iL.below (w':=ln) iv);obtain⟨y,N'⟩:=zn (Hw r c b);have M':G (y=true-> ∃R' C':O,r=(R':V)/\c=(C':V)/\R'<=255/\C'<=255/\b=R'*C'):=λh=>o_ (N'▸h);rw [<-N'] at HM t;clear N' HO ih m' Hc0;by_cases Q:j=0
   focus
    have hj0i:((j:V)==0)=true:=by rw [yp];omega
    rw [qk Q] at u;rw [u] at f0 f1 f2;replace u:=T u;clear Q
   rotate_left
   focus
    have hj0i:((j:V)==0)=false:=by rw [zE];omega
    rw [qJ Q] at u;rw [u] at f0 f1 f2;replace u:=T u;clear Q k41 kf41
   all_goals
    go_wp2_with fail;refine zC (HM _).out ?_;intro o qj;rw [<-u.out] at qj;clear f0 f1 f2;obtain⟨v,d',d,s,E,cK⟩:=Q0 o qj;replace d':=T d';clear qj;obtain⟨f0,f1,f2⟩:i' o (wr:O)=J (r:la)/\i' o ⟨(wr:O),1,none⟩=J (c:la)/\i' o ⟨(wr:O),2,none⟩=J (Z Ai b F):=⟨E.cell 0,E.cell 1,E.cell 2⟩;obtain⟨q0,q1,q2⟩:o.cell? ↑((w:O)+1)=J (e' R)/\i' o ⟨(w:O)+1,1,none⟩=J (a:la)/\i' o ⟨(w:O)+1,2,none⟩=J (Z i m f):=⟨s.cell 0,s.cell 1,s.cell 2⟩;have z0:=s.frozen 0;revert v d s E cK;refine Jx ?_;intro v d s E cK;have N9:y=false\/(y=true/\c≠a)\/(y=true/\c=a/\255<(R:V)+r)\/(y=true/\c=a/\(R:V)+r<=255):=by
     cases y
     ·exact .inl rfl
     ·by_cases h1:c=a
      ·by_cases h2:(R:V)+r<=255
       ·exact .inr (.inr (.inr ⟨rfl,h1,h2⟩))
       ·exact .inr (.inr (.inl ⟨rfl,h1,M⟩))
      ·exact .inr (.inl ⟨rfl,h1⟩)
    rcases N9 with h1|⟨h1,h2⟩|⟨h1,h2,h3⟩|⟨h1,h2,h3⟩
    focus
     have B:G (Q6 a l 0 []=none):=by
      rw [<-cL.out,t.out,qJ (λh=>by rw [h1] at h;exact absurd h.1 FV)];rfl
     subst h1
    rotate_left
    focus
     have B:G (Q6 a l 0 []=none):=by
      rw [<-cL.out,t.out,qJ (λh=>h2 h.2.1)];rfl
     subst h1
    rotate_left
    focus
     have B:G (Q6 a l 0 []=none):=by
      rw [<-cL.out,t.out,qJ (λh=>by have:=h.2.2;omega)];rfl
     obtain⟨q,cn,X,D',U',z',K⟩:=M' h1;subst h1;subst X;subst h2;clear K
    rotate_left
    ·rw [qk ⟨h1,h2,h3⟩] at t;obtain⟨q,cn,X,D',U',z',K⟩:=M' h1;have hnib:b<=q*255:=by rw [K];exact yz _ z'
     have X':G (0<=a):=by rw [Hid,<-h2];omega
     subst h1;subst X;subst h2;rw [zc] at t;clear K D';have u':=iL o d'.out;have x:=XG (j:=0) cK s (e' ((R:V)+(q:V)));have cB:=s.zh 0 (e' ((R:V)+(q:V)));have cY:=d.far (p:= ↑((w:O)+1)) (vV (ze _)) (e' ((R:V)+(q:V)));have D:=v.setCell (p:= ↑((w:O)+1)) (jv _) (e' ((R:V)+(q:V)));have hh:=u'.setCell (p:= ↑((w:O)+1)) (jv _) (e' ((R:V)+(q:V)));revert x cB cY D hh;refine Jx ?_;intro x cB cY D hh;clear u';have Z':m+b<=maxLen:=SJ;have Q':(m+b)*1<=140737488355328:=M;go_wp2_with (at_builtin;refine qF _ rfl (.tmp 45) (.tmp 47) 30 rfl w 5 i0 (gR 0) 1 1 qu hi G' I' J' rfl M i m f _ rfl x w Ai b F _ rfl hh (PY hh) Z' Q' D.size ?_;intro A3 c3 w4 ck N P';have OX:=T (zG D N x D.size);have z:=T (Q_ cB x N);have O':=T (Q_ cY x N);have z2:i' w4 ⟨(w:O)+1,2,none⟩=J (Z i m f):=z.cell 2;have zf:=z.frozen 2;replace ck:=T ck;clear N P');go_roundw
     case rel=>
      refine⟨j+1,c3,R+q,m+b,A3,g++bs,c,xh,M,M,M,λh=>absurd h M,λ_=>⟨rfl,X'⟩,OX.setCell (p:=⟨(w:O)+1,2,none⟩) (jv _) _,O'.far (p:=⟨(w:O)+1,2,none⟩) (vV (ze _)) _, ?_, ?_, ?_⟩
      ·exact z.zh 2 (Z A3 (m+b) c3)
      ·rw [qg];exact XG (j:=2) ck z (Z A3 (m+b) c3)
      ·exact t.symm.trans cL.out
     case measure=>simp [intOf];omega
    all_goals
     go_wp2_with (refine qC rfl 154 _ _ rfl w (mC 0 0 z8) rfl rfl 154 (mC 0 0 z8) d j9 rfl (Jb _ _ _ _ _) ?_);exact qW (zN rfl _ _ w (mC 0 0 z8) (e' 13) rfl rfl (qN _ w 154 _ (mC 0 0 z8) (0,0) _ (d.row _) zL rfl j9)) rfl (P B _ _ ⟨none,0,rfl,qP _ _ _ 1,zu v (qx _) _⟩)
  ·have HS:G (Q6 a l 0 []=J (R,g)):=by
    rw [<-cL.out,zD (by rw [L.out];omega)];rfl
   have HC:G (cv=a/\0<=a):=by
    rcases zA j with h0|h0
    ·have h1:=ZN (by rw [L.out];omega);rw [Hid,h1];exact⟨Hc0.out h0,M⟩
    ·exact Hc1 h0
   obtain⟨Cn,HCn⟩: ∃Cn:O,G (a=(Cn:V)):=⟨a.toNat,by have:=HC.out.2;unfold Hid;omega⟩;rw [HC.out.1,HCn.out] at ih;have hol:G (U g=m):=by have h:=HO.out.1;unfold Hid;simpa using h
   rw [<-hol.out] at HO ih;go_wp2_with (first
    |(refine ja rfl 154 _ rfl ((w:O)+1) rfl 154 (mC R Cn (Z i g f)) (0,0) _ ih zL rfl j9 ?_)
    |(refine qC rfl 154 _ _ rfl w (mC R Cn (Z i g f)) rfl rfl 154 (mC 0 0 z8) m' j9 rfl (Jb _ _ _ _ _) ?_))
   exact qW (zN rfl _ _ w (mC R Cn (Z i g f)) () rfl rfl (qN _ w 154 _ (mC R Cn (Z i g f)) (0,0) _ (m'.row _) zL rfl j9)) rfl (hS R g HS Cn HCn _ _ ⟨i,f,rfl,ZJ HO m' _,zu HB (qx _) _⟩)
end
theorem FQ (R C i j:O) (f:O->O->AB) (hi:i<R) (a:j<C):L' (zP C f (R*C)) C i j=f i j:=by
 unfold L';rw [qd,Qt _ _ _ _ (dQ hi a),(Jl a).1,(Jl a).2];rfl
section
open Go.RowKit
variable {A:q'}{N a b0 base cap g gc gf k n p way:O}{P:Program}{Q:Exit->Act->I->Prop}{iv:I->Prop}{W W':I}{b:qn}{bd:la}{c c':Cu}{md:Region.Mode}{ops:Array Oper}{vs:S la}
theorem An {R:O} {X:O->O->AB} {i j:O} (hi:i<R) (a:j<R):L' (zP R X (R*R)) R i j=X i j:=FQ R R i j X hi a
theorem dm (C:O) (f:O->O->AB) (i:O): ∀j,j<=C->zP C f (i*C+j)=zP C f (i*C)++(List.range j).map (f i)
 |0,_=>s8
 |j+1,a=>by
  rw [<-vo,Ks C f i j M,dm C f i j M,jA,qg,jY];rfl
theorem Ki (C:O) (f:O->O->AB) (i:O):zP C f ((i+1)*C)=zP C f (i*C)++Xu C (f i):=by
 rw [ql,dm C f i C (qx _)];rfl
theorem P4 (C a:O) (f g:O->O->AB): ∀R2,zP C f (a*C)++zP C g (R2*C)=zP C (λi j=>if i<a then f i j else g (i-a) j) ((a+R2)*C)
 |0=>by
  rw [v_,jd,show zP C g 0=[] from rfl,jx]
  apply Yr
  intro i j hi _;rw [qk hi]
 |R2+1=>by
  rw [Ki,<-jY,P4 C a f g R2,<-vo,Ki];congr 1;apply jX
  intro j _;rw [qJ M,Nat.add_sub_cancel_left]
theorem No (n p:O):zP n dy (n*n)++zP n (Vq n) (p*n)=zP n (vE n) ((n+p)*n):=by
 rw [P4];apply Yr;intro i j _ _;unfold vE Vq;by_cases h:i<n
 ·rw [qk h,qk h];rfl
 ·rw [qJ h,qJ h,show n+(i-n)=i by omega]
theorem dM (n p:O) (a:n+p<=255):Q6 (pU [((n:V),(n:V),zP n dy (n*n)),((p:V),(n:V),zP n (Vq n) (p*n))]) [((n:V),(n:V),zP n dy (n*n)),((p:V),(n:V),zP n (Vq n) (p*n))] 0 []=J (n+p,zP n (vE n) ((n+p)*n)):=by
 rw [<-No];have h1:Hw (n:V) (n:V) (n*n)=true:=by unfold Hw;rw [zB];simp;omega
 have h2:Hw (p:V) (n:V) (p*n)=true:=by unfold Hw;rw [zB];simp;omega
 simp only [Q6,pU,yj,h1,h2,true_and,zc,xY,jL];rw [qk M,qk M]
theorem FZ (bs:qn) (R C:O) (f:O->O->AB) (b:bs=zP C f (R*C)): ∀(P:S O) (a:qn),(∀x∈P,x<R)->Vp bs R C (P.map λ(x:O)=>(x:V)) a=J (a++(P.map λx=>Xu C (f x)).flatten)
 |[],a,_=>by simp [Vp]
 |x::P,a,h=>by
  have d:=h x (qo ..);rw [jy,Vp,qk ⟨M,M⟩,zc,FZ bs R C f b P _ (λy c=>h y (qM _ c)),b,Uv R C x f d];simp
theorem bK (C:O) (f:O->O->AB) (P:S O): ∀k,k<=U P->((P.take k).map λx=>Xu C (f x)).flatten=zP C (λi j=>f (P.getD i 0) j) (k*C)
 |0,_=>by simp [zP]
 |k+1,a=>by
  rw [List.take_succ_eq_append_getElem M,qg,xM,bK C f P k M,Ki];congr 1
  simp only [jy,xB,xI,List.flatten_nil,jx];rw [qd,qX M];rfl
theorem Ni (C:O) (f:O->O->AB) (P:S O):(P.map λx=>Xu C (f x)).flatten=zP C (λi j=>f (P.getD i 0) j) (U P*C):=by
 have:=bK C f P P (qx _);rwa [jP] at this
theorem AM (n p:O) (P:S O) (b:n+p<=256) (c:U P=n) (d:P.Nodup) (e: ∀x∈P,x<n+p): ∃X,JL n (L' (zP n (λi j=>vE n (P.getD i 0) j) (n*n)) n)=some X:=by
 obtain⟨X,f⟩:=Fx n p P b c d e;apply Dn (N:=X);intro i j hi a;rw [yh (λ_ _=>rfl) (λt ht=>An ht a)];exact(Uy f).1 i j hi a
theorem iI {W:I} {Ai Ac:q'} {ki kc n p:O} (f:n+p<=255) (hi:E' W W 1 Ai (n*n) ((zP n dy (n*n)).map B8)) (h:E' W W 1 Ac (p*n) ((zP n (Vq n) (p*n)).map B8)) (j:n*n<=ki) (g:p*n<=kc):
  xG 278 #[Z W 2 2] (W (Y #[n,n,Z Ai (n*n) ki,p,n,Z Ac (p*n) kc] 154)) (Ps W (n+p) n (zP n (vE n) ((n+p)*n)) 0):=by
 have a:=F'.new W 154 #[n,n,Z Ai (n*n) ki,p,n,Z Ac (p*n) kc];have c:r' W W (W (Y #[n,n,Z Ai (n*n) ki,p,n,Z Ac (p*n) kc] 154)):=j1 _;have r:=(hi.below c).more c.size;have s:=(h.below c).more c.size;have t:=a.lt;have d: ∀k,((W:O):Addr).add k=⟨W,k,none⟩:=λk=>by unfold Addr.add;split<;>simp_all
 refine Sv _ 2 2 [((n:V),(n:V),zP n dy (n*n)),((p:V),(n:V),zP n (Vq n) (p*n))] _ M ⟨rfl,λ_=>⟨_,rfl,t,λi hi=> ?_⟩⟩ _ ?_ ?_
 ·match i,hi with
  |0,_=>exact⟨_,_,_,by rw [d];exact a.cell 0,by rw [d];exact a.cell 1,by rw [d];exact a.cell 2,j,r⟩
  |1,_=>exact⟨_,_,_,by rw [d];exact a.cell 3,by rw [d];exact a.cell 4,by rw [d];exact a.cell 5,g,s⟩
 ·intro R u b C l e w' m;rw [dM n p f] at b;injection b with b;injection b with h1 h2;subst h1 h2;have q:C=n:=by
   have:pU [((n:V),(n:V),zP n dy (n*n)),((p:V),(n:V),zP n (Vq n) (p*n))]=(n:V):=rfl;rw [this] at l;omega
  subst q;obtain⟨A,k,o,b,a⟩:=m;exact⟨A,k,o,qi b c.size,zX c a⟩
 ·intro b;rw [dM n p f] at b;cases b
def i_ (w:I) (r c:O) (a:qn) (e:Ending) (w':I):Prop:=
 ∃A k,e=t' (.agg (mC r c (Z A a k)))/\xp w' w 5 1 (Z A a k) a (a.map B8)/\r' w w w'
theorem dJ {a:Func} {p:Tmp} {b:TypeId} (h:a.results= #[.cell p b]) (tmps:Array la) (w:I) (g:O) (c:Array la)
  (e:tmps.getD p undef=mJ g) (d:(loadVar b g).run prog w= .ok (.agg c) w):
  (results a tmps).run prog w= .ok (.agg c) w:=by
 have f:tmps[p]?.getD undef=mJ g:=by simpa using e
 simp [results,h,f,asAddr,d]
theorem Sp (m p:O) (w:I) (qj:m+p<=255):xG 260 #[m,p] w (i_ w (m+p) m (zP m (vE m) ((m+p)*m))):=by
 have Q:=(jb YE).1;have k:=T (λW=>AX m W M);have l:=T (λW=>bz m p W M);have f:=T (λ(W:I) (Ai Ac:q') (ki kc:O) h1 h2 h3 h4=>iI (W:=W) (Ai:=Ai) (Ac:=Ac) (ki:=ki) (kc:=kc) (n:=m) (p:=p) M h1 h2 h3 h4);unfold Ps at k l f;unfold mC at k l f;simp only [yj] at k l f;unfold i_;rw [yj];obtain⟨q,H⟩:=zn (m+p);rw [<-H] at f⊢;obtain⟨N2,u⟩: ∃N2,m*m=N2:=⟨_,rfl⟩;obtain⟨g,D⟩: ∃g,p*m=g:=⟨_,rfl⟩;obtain⟨b,x⟩: ∃b,q*m=b:=⟨_,rfl⟩;rw [u] at k f;rw [D] at l f;rw [x] at f⊢;generalize zP m dy N2=X,zP m (Vq m) g=R,zP m (vE m) b=cB at*;revert u D x H;refine yb ?_;intro u D x H;go_in;go_wp2_with fail;have a:G (F' (w (Y #[(),(),z8] 154)) w 154 (mC 0 0 z8)):=F'.new w 154 _;have d:=T (zi (qZ w w) (Y #[(),(),z8] 154));generalize w (Y #[(),(),z8] 154)=P at*;refine(k _).mono ?_;rintro e hh ⟨Ai,ki,rfl,ih,F⟩;have y:=J7 ih;replace a:=T ((a.below F a.lt).alloc (Y #[m,m,Z Ai N2 ki] 154));replace d:=T (zi (zX d F) (Y #[m,m,Z Ai N2 ki] 154));have j:=T (MB.new (r:=(m:O)) (c:=(m:O)) y.1 y.2);clear y ih F;obtain⟨z,A,C⟩:=j.cells;go_wp2_with fail;generalize hh (Y #[m,m,Z Ai N2 ki] 154)=d',(hh:O)=gi at*;refine(l _).mono ?_;rintro e t ⟨Ac,kc,rfl,K,s⟩;have B:=J7 K;clear z A C;replace j:=T ((j.below s).alloc (Y #[p,m,Z Ac g kc] 154));replace a:=T ((a.below s a.lt).alloc (Y #[p,m,Z Ac g kc] 154));replace d:=T (zi (zX d s) (Y #[p,m,Z Ac g kc] 154));have o:=T (MB.new (r:=(p:O)) (c:=(m:O)) B.1 B.2);clear B K s;obtain⟨z,A,C⟩:=j.cells;obtain⟨cL,uK,N⟩:=o.cells;go_wp2_with fail;rw [show (t:O)+1=(t (Y #[p,m,Z Ac g kc] 154):O) by simp];generalize t (Y #[p,m,Z Ac g kc] 154)=ck,(t:O)=gc at*;refine(f _ _ _ _ _ j.rd o.rd j.cap o.cap).mono ?_;rintro e iv ⟨h,i,rfl,E,ln⟩;have v:=J7 E;clear z A C cL uK N;have HS:=T (qi (base':=(w:O)) (qG E (zi (qZ _ _) (Y #[q,m,Z h b i] 154))) d.size);replace a:=T ((a.below ln a.lt).alloc (Y #[q,m,Z h b i] 154));replace d:=T (zi (zX d ln) (Y #[q,m,Z h b i] 154));have L:=T (MB.new (r:=(q:O)) (c:=(m:O)) v.1 v.2);clear v E ln;obtain⟨iL,cK,cY⟩:=L.cells;go_wp2_with (refine qC rfl 154 _ _ rfl w (mC q m (Z h b i)) rfl rfl 154 (mC 0 0 z8) a j9 rfl (Jb _ _ _ _ _) ?_);exact qW (dJ rfl _ _ w (mC q m (Z h b i)) rfl (qN _ w 154 _ (mC q m (Z h b i)) (0,0) _ (a.row _) zL rfl j9)) rfl ⟨h,i,rfl,ZJ HS a _,zu d (qx _) _⟩
theorem zM.cat {j:I} {n m c w:O} {A y:q'} {q v:S qn} {t:S la} (h1:xp W base 30 1 (Z A n c) n vs) (h2:U q=n) (h3: ∀(i:O) (d:qn),q[i]? =some d-> ∃(Ai:q') (b:O),vs[i]? =J (Z Ai d b)/\j8 W b0 base Ai b d) (h0:b0<=base) (H:base<=(W:O)) (L:U t=m) (K:U v=m) (D: ∀(i:O) (d:qn),v[i]? =some d-> ∃(Ai:q') (b:O),t[i]? =J (Z Ai d b)/\j8 W b0 base Ai b d) (C:xp j base 30 1 (Z y (n+m) w) (n+m) (vs++t)) (h:W.grownBy j (A.map (·.block))):
  zM j b0 base y (n+m) w (q++v):=by
 have keep: ∀(l:q') (k:O) (f:qn),j8 W b0 base l k f->j8 j b0 base l k f:=λl k f x=>by
  rcases A with _|s
  ·obtain⟨o1,o2,o3⟩:=x;refine⟨o1,o2, ?_⟩;rcases o3 with o3|o3
   ·exact .inl (o3.keep λp R=>zw (h.block _ M s8))
   ·refine .inr (zI o3 (λa Q=> ?_));obtain⟨F,E,o⟩:=jV o3 _ (by rw [Q];rfl);exact h.block _ (jz o) s8
  ·obtain⟨F,E,o⟩:=jV h1 _ rfl;have N:=(h1.lt _ rfl).1;exact x.other h0 o N (λg z B=>h.block g z (by simpa using B))
 have P:U vs=n:=by have:=h1.1;omega
 refine⟨⟨_,C,by rw [qK,h2,K],λi f hi=> ?_⟩,qv H h.size,h0⟩;by_cases e:i<n
 ·rw [q_ M] at hi;obtain⟨Ai,b,r,u⟩:=h3 i f hi;exact⟨_,b,by rw [q_ M];exact r,keep _ _ _ u⟩
 ·rw [qm M,h2] at hi;obtain⟨Ai,b,r,u⟩:=D _ f hi;exact⟨_,b,by rw [qm M,P];exact r,keep _ _ _ u⟩
theorem dV (i j:O) {g d:Oper} {s m:S Oper} {fuel:O} {listed:Array Bool} {a:Act} {w:I} (hi:ops.toList.drop i=g::s) (q:ops.toList.drop j=d::m)
  (h:Region.ready md ops listed=[i,j]) (r:Region.wanted g (yielded ops a.tmps)=true) (p:Region.wanted d (yielded ops a.tmps)=true)
  (h1: ∀b:Act->I->Prop,Shut (∀a w,iv w->(iv w->jR P md ops Q iv n fuel (listed.setIfInBounds i true) a w)->b a w)->Oper.wp P g a w b Q)
  (h2: ∀b:Act->I->Prop,Shut (∀a w,iv w->(iv w->jR P md ops Q iv n fuel (listed.setIfInBounds j true) a w)->b a w)->Oper.wp P d a w b Q):jR P md ops Q iv n (fuel+1) listed a w:=by
 refine⟨λh0=>absurd (h0.symm.trans h) s8,λk l=> ?_⟩;rw [h] at l;have o:k=i\/k=j:=by simpa using l
 rcases o with rfl|rfl
 ·exact wpOp_step (ZS hi) (λb e=>by rw [qk r];exact h1 b λa w c f=>e a w ⟨λ_ _=>c,f c⟩)
 ·exact wpOp_step (ZS q) (λb e=>by rw [qk p];exact h2 b λa w c f=>e a w ⟨λ_ _=>c,f c⟩)
theorem mz {a:S qn} (f:U vs=U a) (h3: ∀(i:O) (b:qn),a[i]? =some b-> ∃(Ai:q') (c:O),vs[i]? =J (Z Ai b c)/\j8 W b0 base Ai c b): ∀u∈vs,u.oneCell'=true:=λu d=>by
 obtain⟨i,hi,rfl⟩:=Q8 d;obtain⟨Ai,c,e,_⟩:=h3 i _ (qX (by omega:i<U a))
 rw [qX hi] at e;injection e with e
 rw [e];rfl
theorem IY (d:k<=64) (h:kq b a<k):CI b a (k:V)=1/\tn b a (k:V)=0/\ti b a (k:V)=a:=by
 have c:CI b a (k:V)=1:=by unfold CI;rw [qJ M,qk M]
 unfold tn ti;rw [c];exact⟨rfl,qJ FV,qJ FV⟩
theorem OB (d:k<=64) (h: ¬kq b a<k):CI b a (k:V)=0/\tn b a (k:V)=kM b a k/\ti b a (k:V)=a+k:=by
 have c:CI b a (k:V)=0:=by unfold CI;rw [qJ M,qJ M]
 unfold tn ti;rw [c];exact⟨rfl,qk rfl,qk rfl⟩
theorem D_ {cap at_:O} (h:Rd W g A N cap b at_) (a:k<=64) (c:kq b at_<k):
  xG 274 #[mJ g,k] W (JD W g A N cap b (BA #[.int .u64 0,e' 1]) at_):=by
 have:=UF W g A N _ _ b (k:V) h;obtain⟨h1,h2,h3⟩:=IY a c;rw [h1,h2,h3] at this;exact this
theorem Uc {cap at_:O} (h:Rd W g A N cap b at_) (a:k<=64) (c: ¬kq b at_<k):
  xG 274 #[mJ g,k] W (JD W g A N cap b (BA #[.int .u64 (kM b at_ k),()]) (at_+k)):=by
 have:=UF W g A N _ _ b (k:V) h;obtain⟨h1,h2,h3⟩:=OB a c;rw [h1,h2,h3] at this;exact this
def uG (W:I) (g:O) (A:q') (N cap:O) (b:qn) (r:V×qn×O) (e:Ending) (a:I):Prop:=
 ∃d c,e=t' (BA #[Z d (U r.2.1) c,e' r.1])/\xp a W 5 1 (Z d (U r.2.1) c) (U r.2.1) (r.2.1.map B8)/\Rd a g A N cap b r.2.2/\qE [g] W a
theorem Rd.beside {f:I} {cap at_ base n c:O} {d:q'} {j:S la} (h:Rd W g A N cap b at_) (i:xp W base 5 1 (Z d n c) n j) (l: ∀k∈K' A,k<base) (p:g<base) (m:W.grownBy f (d.map (·.block))):Rd f g A N cap b at_:=by
 have e:=λk a=>(zj i k a).1;refine h.jZ ((qE.refl (K' d) W).grown m λk a=> .inl a) (λa=>by have:=e _ a;omega) (λk a o=>by have:=e _ o;have:=l _ a;omega)
theorem EK (W:I) (g:O) (A:q') (N cap at_ n:O) (b:qn) (hn:n<=300) (h:Rd W g A N cap b at_):
  xG 284 #[mJ g,n] W (uG W g A N cap b (gq b n at_)):=by
 obtain⟨cB,hi,P,Q,cY⟩:=xt xR;have H:=T h;have O':=T (λk j=>(zj h.own k j).2);have cL:=T h.blk.lt;clear h;have hb1:cB.bytes*n<=281474976710656:=by rw [cY.out];omega
 have U':n<=maxLen:=SJ;have hn0: ¬(n:V)<0:=M;have hn3: ¬(300:V)<(n:V):=M;go_in;go_wp2_with (at_make;refine QA _ rfl _ _ 30 rfl W 5 cB (gR 0) 1 qu hi P Q .i64 .i64 _ n rfl rfl rfl hb1 U' (qx _) ?_;intro w1 P' hh);have N':=T ((qE.refl [g] W).IJ hh);have N6:=T (H.fresh ⟨hh.os,hh.tape,hh.output,hh.size,λk j=>hh.block k j s8⟩);have N9:=T P';clear P' hh;go_loopw [6,7] (λv6 v7 wr=> ∃(f d m c2:O) (a:qn) (z:Bool) (D:q'),v6=Z D m c2/\v7= .bool z/\m<=n/\G (m=U a)/\G (n-m<=f)/\G (Rj b n f d a z=gq b n at_)/\G (xp wr W 5 1 (Z D m c2) m (a.map B8))/\G (Rd wr g A N cap b d)/\G (qE [g] W wr)) (λv6 _ _=>n-Y8 v6)
 ·exact⟨n,at_,0,n,[],false,_,rfl,rfl,qp _,rfl,by rw [Hid];omega,rfl,N9,N6,N'⟩
 ·obtain⟨f,d,m,c2,a,z,D,rfl,rfl,hmn,E,HF,X,C,qj,x⟩:=hrel;by_cases hlt:m<n
  ·have hlt':=j' m n;obtain⟨f,rfl⟩: ∃f',f=f'+1:=⟨f-1,by have:=HF.out;omega⟩;have J': ¬n<=U a:=by rw [<-E.out];omega
   have ih:=X.out;rw [Rj.eq_2,qJ J'] at ih;replace ih:=T ih;clear X J';by_cases h4:kq b d<4
   ·have p:=T (D_ qj M h4);have s:G (gq b n at_=(1,[],d)):=by rw [Hid,<-ih.out,qk h4]
    unfold JD at p;clear h4;go_wp2_with fail;refine zC p ?_;rintro i ⟨l,o⟩;replace l:=T l;replace o:=T o;go_wp2;go_ret2;unfold uG;rw [s.out];exact⟨_,0,rfl,qP _ _ _ _,l,x.then o⟩
   ·have p:=T (Uc qj M h4);have c:=ih.out;rw [qJ h4] at c;unfold JD at p;have m':=Zr b d 4;obtain⟨v,hv⟩:=zn (kM b d 4);rw [<-hv] at p c m';have S':v<16:=m';clear h4 m' hv;by_cases e:v≠0
    ·rw [qk e] at c;replace c:=T c;have hv0':=yn v;have hwv:IntKind.u8.wrap (v:V)=(v:V):=by rw [va];omega
     have Z':G ((v:V)=((UInt8.ofNat v).toNat:V)):=by rw [Hid,zS];omega
     have hm1:m+1<=maxLen:=SJ;have o:(m+1)*1<=140737488355328:=M;clear e;go_wp2_with fail;refine zC p ?_;rintro i ⟨l,I'⟩;have F:=T (I'.own C (λk j=>by have:=(zj C k j).1;have:=cL.out;simp;omega));have Q':=T l;have u:=T (x.then I');clear l I' C qj x;have d':=u.size;replace d':=T d';go_wp2_with (at_builtin;refine qF _ rfl (.tmp 34) (.tmp 37) 30 rfl W 5 cB (gR 0) 1 1 qu hi P Q cY rfl M D m c2 _ rfl (F.alloc _) ((i:O)+1) (i:O) 1 1 [gR (v:V)] rfl (zU _ _ _) (IB rfl) hm1 o (qv d' s8) ?_;intro cK R w4 y ln p';have D':=T ((Q'.fresh (j1 _)).beside (F.alloc _) O' cL ln);have u':=T ((u.alloc (Y #[gR (v:V)] 5)).grown ln (λk j=> .inr (zj F k j).1));replace y:=T y;clear ln p');have K:G (xp w4 W 5 1 (Z cK (m+1) R) (m+1) ((a++[UInt8.ofNat v]).map B8)):=by
      have:=y.out;rw [Z'.out] at this;rw [Hid,qg];exact this
     have M':G (m+1=U (a++[UInt8.ofNat v])):=by rw [Hid,qK,<-E.out];rfl
     go_roundw
     case rel=>exact⟨f,d+4,m+1,R,a++[UInt8.ofNat v],false,cK,s8,xg,M,M',by have:=HF.out;rw [Hid];omega,c,K,D',u'⟩
     case measure=>simp [Y8];omega
    ·obtain rfl:v=0:=M;rw [qJ e] at c;clear e S';by_cases h6:kq b (d+4)<6
     focus
      rw [qk h6] at c;have s:=T c.symm;have t:=T (λi (h2:Rd i g A N cap b (d+4))=>D_ h2 M h6);unfold JD at t;clear h6
     rotate_left
     focus
      rw [qJ h6] at c;have t:=T (λi (h2:Rd i g A N cap b (d+4))=>Uc h2 M h6);unfold JD at t;have G':=Zr b (d+4) 6;obtain⟨k,j⟩:=zn (kM b (d+4) 6);rw [<-j] at c t G';have hk63:k<64:=G';have hwk:DW (k:V)=(k:V):=SX;clear h6 G' j;by_cases L:z=true\/n-U a<=k
      ·rw [qk L] at c;have s:=T c.symm;have iL:z=true\/(z=false/\(n:V)-(m:V)<=(k:V)):=by
        rcases L with h|h
        ·exact .inl h
        ·cases z
         ·rw [<-E.out] at h;exact .inr ⟨rfl,M⟩
         ·exact .inl rfl
       clear L;rcases iL with rfl|⟨rfl,iL⟩<;>
       ·go_wp2_with fail;refine zC p ?_;rintro i ⟨l,o⟩;have B:=T (t i l);have u:=T (x.then o);clear l o;go_wp2_with fail;refine zC B ?_;rintro w3 ⟨w,q⟩;replace w:=T w;replace q:=T q;go_wp2;go_ret2;unfold uG;rw [s.out];exact⟨_,0,rfl,qP _ _ _ _,w,u.then q⟩
      focus
       rw [qJ L] at c;obtain rfl:z=false:=by cases z<;>simp_all
       have hmk:m+(k+1)<=n:=by rw [<-E.out] at L;omega
       replace c:=T c;have hwk1:IntKind.u64.wrap ((k:V)+1)=(k:V)+1:=by rw [qS];omega
       have hk1:G ((k:V)+1=((k+1:O):V)):=by rw [Hid];omega
       have X':G (decide (k+1<64)=decide ((k:V)+1<64)):=by
        rw [Hid];by_cases h:k+1<64
        ·rw [qw h,qw M]
        ·rw [qc h,qc M]
       clear L
      rotate_left
     rotate_left
     all_goals
      go_wp2_with fail;refine zC p ?_;rintro i ⟨l,o⟩;have B:=T (t i l);have u:=T (x.then o)
     ·clear l o;go_wp2_with fail;refine zC B ?_;rintro w3 ⟨w,q⟩;replace w:=T w;replace q:=T q;go_wp2;go_ret2;unfold uG;rw [s.out];exact⟨none,0,rfl,qP _ _ _ _,w,u.then q⟩
     ·have F:=T (o.own C (λk j=>by have:=(zj C k j).1;have:=cL.out;simp;omega));clear l o;go_wp2_with fail;refine zC B ?_;rintro w3 ⟨w,q⟩;have z':=T (u.then q);have OX:=T w;have HO3:=T (z'.size);have K:=T (q.own F (λk j=>by have:=(zj F k j).1;have:=cL.out;simp;omega));clear w q C;go_wp2_with (at_builtin;refine Pm _ rfl (.tmp 57) (.tmp 59) 30 43 rfl W 5 cB (gR 0) 1 .u64 .u64 qu underlying43 hi P Q cY rfl rfl M D m c2 _ rfl K (k+1) (zo _ hk1) M M HO3 ?_;intro cK R w4 y ln p';have D':=T (OX.beside K O' cL ln);have u':=T (z'.grown ln (λk j=> .inr (zj K k j).1));replace y:=T y;clear ln p');have Y':G (xp w4 W 5 1 (Z cK (m+(k+1)) R) (m+(k+1)) ((a++List.replicate (k+1) 0).map B8)):=by
       have:=y.out;rw [Hid,qg,yP];exact this
      have M':G (m+(k+1)=U (a++List.replicate (k+1) 0)):=by rw [Hid,qK,<-E.out,zT]
      go_roundw
      case rel=>exact⟨f,d+10,m+(k+1),R,a++List.replicate (k+1) 0,decide (k+1<64),cK,s8,by rw [X'.out],M,M',by have:=HF.out;rw [Hid];omega,c,Y',D',u'⟩
      case measure=>simp [Y8];omega
  ·have J':=vc m n;obtain rfl:m=n:=M;have uK:=T (kY D m c2 _ a _ (E'.zY C) (qx _));have s:G (gq b m at_=(if gk a≠0 then 7 else 0,if gk a≠0 then [] else a,d)):=by
    have h1:m<=U a:=by rw [<-E.out];exact qx _
    rw [Hid,<-X.out];cases f with
    |zero=>rfl
    |succ f=>rw [Rj.eq_2,qk h1]
   clear X;rcases uf a with iv|iv;rotate_left;rotate_left
   all_goals
    rw [iv] at uK s;clear iv;go_wp2_with fail;refine zC uK ?_;intro i r;replace r:=T r;go_wp2;go_ret2;unfold uG;rw [s.out]
   ·refine⟨D,c2,by simp [E.out], ?_,qj.fresh r,x.fresh r⟩;have:=qG C r.out;simpa [<-E.out] using this
   ·exact⟨_,0,rfl,qP _ _ _ _,qj.fresh r,x.fresh r⟩
theorem Sw (W:I) (g:O) (A:q') (N cap at_:O) (b:qn) (n:V) (h:Rd W g A N cap b at_):
  xG 299 #[mJ g,n] W (JD W g A N cap b (e' (Po b at_ n)) (Hj b at_ n)):=by
 have H:=T h;have d:=T (XV W g A N _ _ b h);have i:=h.len;have r:=h.le;have o:=h.lim;clear h;by_cases h1:n<0
 ·have c:Po b at_ n=13:=qk h1;unfold Hj;rw [c,qJ FV];go_wp2;go_ret;exact⟨rfl,H,qE.refl _ _⟩
 ·obtain⟨k,rfl⟩: ∃k:O,n=(k:V):=⟨n.toNat,M⟩;by_cases h2:(kq b at_:V)<(k:V)
  ·have c:Po b at_ k=1:=by unfold Po;rw [qJ h1,qk h2]
   unfold Hj;rw [c,qJ FV];generalize kq b at_=lf at*;clear r o h1;go_in;go_wp2_with fail;refine zC d ?_;intro q a;replace a:=T a;go_wp2;go_ret;exact⟨rfl,H.dr a,Zp a⟩
  ·have c:Po b at_ k=0:=by unfold Po;rw [qJ h1,qJ h2]
   unfold Hj;rw [c,qk rfl,show(k:V).toNat=k from rfl];have m:at_+k<=8*N:=by unfold kq at h2;rw [i] at h2;omega
   have t:wrap64 ((at_:V)+(k:V))=(at_:V)+(k:V):=yT _ ⟨M,M⟩;generalize kq b at_=lf at*;clear h1 c;go_in;go_wp2_with fail;refine zC d ?_;intro q a;have f:=T (H.dr a);have j:=T (Zp (l:=[g]) a);have c2:=f.out.XZ;have s:=f.blk.frozen 2;clear a;go_wp2;go_ret;exact⟨rfl,f.setAt _ m,j.zh (p:=⟨g,2,none⟩) (qy.2 rfl) _⟩
theorem I8 (b:qn) (at_ k:O):min (k:V) (kq b at_:V)=((min k (kq b at_):O):V):=M
theorem SW (W:I) (g:O) (A:Option Addr) (N cap at_ k:O) (b:S AB) (i:k<=64) (h:Rd W g A N cap b at_):
  xG 297 #[mJ g,k] W λe j=>e=t' (BA #[.int .u64 (kM b at_ k),e' (min k (kq b at_):O)])/\Dr W j:=by
 have H:=T h;have n:=h.lim;have p:=h.le;have c2:=h.XZ;have d:=T (λa (c:Rd a g A N cap b at_)=>pE a g A N cap at_ k at_ b c i M);have f:=T (λa (c:Rd a g A N cap b at_)=>XV a g A N cap at_ b c);rw [<-I8];generalize kq b at_=lf at*
 generalize kM b at_ k=m at*
 clear h
 go_enter func297,ntmps297
 go_wp2_with fail;go_quiet (first|(go_at_call 287;exact Kj (d.out _ (H.out.drewN _)))|(go_at_call 273;exact Uf (f.out _ (H.out.drewN _))))
 go_wp2_with fail
 go_ret2;exact⟨rfl,⟨_,rfl⟩⟩
theorem me (W:I) (g:O) (A:q') (N cap at_:O) (b:qn) (h:Rd W g A N cap b at_):
  xG 269 #[mJ g] W λe o=>e=t' (e' (cJ b at_))/\Dr W o:=by
 have H:=T h;have s:=h.lim;have u:=h.le;have k:=T (XV W g A N _ _ b h);clear h;by_cases h1:8<=kq b at_
 ·have j:cJ b at_=2:=qk (.inl h1);rw [j];generalize kq b at_=lf at*;have n:(8:V)<=(lf:V):=M;go_in;go_wp2_with fail;refine zC k ?_;intro f a;replace a:=T a;go_wp2;go_quiet (fail);go_wp2;go_ret;exact⟨rfl,a.drewN _⟩
 ·have l:=T (λf (p:Rd f g A N cap b at_)=>pE f g A N _ _ (kq b at_) at_ b p M M);have j:cJ b at_=if kM b at_ (kq b at_)≠0 then 2 else 0:=by
   unfold cJ;by_cases h2:kM b at_ (kq b at_)≠0
   ·rw [qk (.inr h2),qk h2]
   ·rw [qJ M,qJ h2]
  rw [j];clear j;generalize kq b at_=lf at*;generalize kM b at_ lf=c at*;have n: ¬(8:V)<=(lf:V):=M;have t:decide ((8:V)<=(lf:V))=false:=qc n;have i:(c=0)\/((c:V)==0)=false:=by
   rcases zA c with h0|h0
   ·exact .inl h0
   ·exact .inr SZ
  rcases i with rfl|i;rotate_left
  focus
   have r:((c:V) !=0)=true:=by simpa [bne] using i
   have m:c≠0:=by rintro rfl;simp at i
   rw [qk m];clear m
  all_goals
   go_in;go_wp2_with fail;refine zC k ?_;intro f a;have d:=T (H.dr a);have c2:=d.out.XZ;replace a:=T a;go_wp2;go_quiet ((go_at_call 287;exact Kj (l.out _ (d.out.drewN _))));go_wp2;go_ret;exact⟨rfl,a.drewN _⟩
theorem tf (W:I) (g:O) (A:q') (N cap at_:O) (b:qn) (h:Rd W g A N cap b at_):
  xG 272 #[mJ g] W (JD W g A N cap b (BA #[e' (Ju b at_),e' (uM b at_)]) (pq b at_)):=by
 have H:=T h;have D:=h.lim;have s:=h.le;have w:=T h.len;have c1:=h.V9;have c2:=h.XZ;have x:=h.blk.frozen 2;have l:=λi hi=>T (FA W g W A N _ i b h.VH (E'.zY h.own) hi h.lim);have t:8*N<=8000000000:=M;replace l:=T l;obtain⟨m,c⟩:=zn (8*N);rw [<-c] at c1 s t l;replace c:=T c;clear h;go_wp2;go_loopw [4] (λo wr=> ∃(i f:O),o=(i:la)/\i<=m/\at_<=i/\G (i+f=m)/\G (um b i f=una b at_)/\W=wr) (λo _=>m-(intOf o).toNat)
 ·exact⟨at_,m-at_,rfl,s,qx _,by rw [Hid];omega,by rw [Hid];unfold una kq;rw [w.out,c.out],rfl⟩
 ·obtain⟨i,f,rfl,hi,z,n,a,rfl⟩:=hrel;by_cases u:i<m
  ·have B:=j' i m;obtain⟨f,rfl⟩: ∃v,f=v+1:=⟨f-1,by have:=n.out;omega⟩;have k:=l i u;have r:=D2 b i;by_cases d:dq b i=1
   ·have j:G (una b at_=some i):=by rw [Hid,<-a.out];unfold um;rw [qk d]
    rw [d] at k;have C:((i:V)-(at_:V))=((i-at_:O):V):=M;clear r d a;go_wp2_with fail;refine Ω k ?_;go_wp2;go_ret2;unfold Ju uM pq;rw [j.out];exact⟨rfl,H.setAt (i+1) (by rw [<-c.out];omega),(qE.refl [g] W).zh (p:=⟨g,2,none⟩) (qy.2 rfl) _⟩
   ·have j:G (um b (i+1) f=una b at_):=by rw [Hid,<-a.out,um.eq_2,qJ d]
    have q:dq b i=0:=M;rw [q] at k;clear r d q a;go_wp2_with fail;refine Ω k ?_;go_wp2_with fail;refine xk ?_;exact⟨i+1,f,xg,M,M,by have:=n.out;rw [Hid];omega,j,trivial⟩
  ·have y:=vc i m;obtain rfl:f=0:=by have:=n.out;omega
   have j:G (una b at_=none):=a.symm;clear a;go_wp2;go_ret2;unfold Ju uM pq;rw [j.out];exact⟨s8,H,qE.refl _ _⟩
structure Fr (W:I) (gf gc way n p:O) (bd:la) (A:q') (N cap:O) (b:qn) (c:Cu):Prop where
 blk:F' W gf 291 #[mJ gc,way,n,p,bd]
 cur:Lr W gc A N cap b c
 ne:gf≠gc
theorem Fr.step (h:Fr W gf gc way n p bd A N cap b c) (a:Lr W' gc A N cap b c') (d:qE [gc] W W'):Fr W' gf gc way n p bd A N cap b c':=
 ⟨d.blk h.blk (by simpa using h.ne),a,h.ne⟩
theorem Fr.fresh (h:Fr W gf gc way n p bd A N cap b c) (a:r' W W W'):Fr W' gf gc way n p bd A N cap b c:=h.step (h.cur.fresh a) (qE.jq a)
theorem Fr.drew (h:Fr W gf gc way n p bd A N cap b c):Fr W.drew gf gc way n p bd A N cap b c:=h.fresh ((Dr.refl W|>.drewN 1).below _)
theorem Fr.fp (h:Fr W gf gc way n p bd A N cap b c): ∀k∈K' A,k≠gf:=qT h.cur.own h.blk FV
theorem Fr.Xm (h:Fr W gf gc way n p bd A N cap b c) (i:O) (u:la):Lr (W.setCell ⟨gf,i,none⟩ u) gc A N cap b c:=
 h.cur.jZ ((qE.refl [gf] W).zh (qy.2 rfl) u) (by simpa using λe=>h.ne e.symm) (λk a=>by simpa using h.fp k a)
theorem Fr.Ik (h:Fr W gf gc way n p bd A N cap b c) (v:O):Fr (W.setCell ⟨gf,1,none⟩ v) gf gc v n p bd A N cap b c:=⟨by simpa using h.blk.zh 1 v,h.Xm 1 _,h.ne⟩
theorem Fr.GS (h:Fr W gf gc way n p bd A N cap b c) (v:O):Fr (W.setCell ⟨gf,2,none⟩ v) gf gc way v p bd A N cap b c:=⟨by simpa using h.blk.zh 2 v,h.Xm 2 _,h.ne⟩
theorem Fr.gJ (h:Fr W gf gc way n p bd A N cap b c) (v:O):Fr (W.setCell ⟨gf,3,none⟩ v) gf gc way n v bd A N cap b c:=⟨by simpa using h.blk.zh 3 v,h.Xm 3 _,h.ne⟩
theorem Fr.Lu (h:Fr W gf gc way n p bd A N cap b c) (v:la):Fr (W.setCell ⟨gf,4,none⟩ v) gf gc way n p v A N cap b c:=⟨by simpa using h.blk.zh 4 v,h.Xm 4 _,h.ne⟩
theorem Fr.cells (h:Fr W gf gc way n p bd A N cap b c):i' W gf=J (mJ gc)/\i' W ⟨gf,1,none⟩=J (way:la)/\i' W ⟨gf,2,none⟩=J (n:la)/\i' W ⟨gf,3,none⟩=J (p:la)/\i' W ⟨gf,4,none⟩=some bd:=
 ⟨h.blk.cell 0,h.blk.cell 1,h.blk.cell 2,h.blk.cell 3,h.blk.cell 4⟩
theorem Fr.frz (h:Fr W gf gc way n p bd A N cap b c) (i:O):W.frozen? ⟨gf,i,none⟩=false:=h.blk.frozen i
theorem Qf (a:qE [gf,gc] W W') (i:O) (u:la):qE [gf,gc] W (W'.setCell ⟨gf,i,none⟩ u):=a.zh (qo ..) u
theorem yv {a:I} (b:qE [gf,gc] W W') (h:qE [gc] W' a):qE [gf,gc] W a:=b.then (h.mono λk c=>by rw [qy.1 c];simp)
def Ca (W:I) (gf a:O) (d:la) (A:q') (N cap:O) (b:qn) (e:Ending) (c:I):Prop:=
 e=t' (BA #[])/\Fr c gf a (g8 b).1.toNat (GR b).1 (pr b).1 d A N cap b (B3 b)/\qE [gf,a] W c
theorem gV (b:qn):(GR b).1<=32768/\(pr b).1<=32768:=by
 have key: ∀(c:Cu),(jU b 32768 c).1<=32768:=λc=>by
  unfold jU;dsimp only;split
  ·omega
  ·have:=Yi (b.drop c.at_) 32768 M;omega
 exact⟨key _,key _⟩
theorem Tq (W:I) (gf g:O) (bd:la) (A:q') (N cap:O) (b:qn) (h:Fr W gf g 0 0 0 bd A N cap b ⟨0,0⟩):
  xG 223 #[mJ gf] W (Ca W gf g bd A N cap b):=by
 have H:=T h;have ln:=T (QS W g A N cap b ⟨0,0⟩ h.cur);obtain⟨x1,x2⟩:=gV b;unfold Ca;have e1:G (j_ b ⟨0,0⟩=g8 b):=rfl;rw [e1.out] at ln;have q:TT b=if 1<(g8 b).1.toNat then vP (g8 b).2 2 else(g8 b).2:=rfl
 have e3:G (jU b 32768 (TT b)=GR b):=rfl;have e4:G (jU b 32768 (GR b).2=pr b):=rfl;have d:B3 b=if 1032*(pr b).1+64<(GR b).1 then vP (pr b).2 6 else(pr b).2:=rfl
 have w:=T (λW (h:Lr W g A N cap b (TT b))=>yK W g A N cap b _ 32768 h M);have v:=T (λW (h:Lr W g A N cap b (GR b).2)=>yK W g A N cap b _ 32768 h M);rw [e3.out] at w;rw [e4.out] at v;generalize TT b=c2,B3 b=c5 at*;have hy:=(g8 b).1.toNat_lt;have z':B8 (g8 b).1=gR ((g8 b).1.toNat:V):=rfl;rw [z'] at ln;generalize (g8 b).1.toNat=y,(g8 b).2=c1,(GR b).1=n3,(GR b).2=c3,(pr b).1=a,(pr b).2=c4 at*;replace q:=T q;replace d:=T d;unfold jS at ln w v;obtain⟨q0,-,-,-,-⟩:=h.cells;have wy:DW (y:V)=(y:V):=SX;clear h z';go_in;go_wp2_with fail;refine zC ln ?_;rintro w1 ⟨p',iL⟩;have P:=H.step p' iL;have g1:=P.cells.2.1;have f1:=P.frz 1;have u:=T (P.Ik y);have cL:=T (Qf (gf:=gf) (iL.mono (l':=[gf,g]) λk hk=>by rw [qy.1 hk];simp) 1 y);obtain⟨u',D',-,-,-⟩:=u.cells;clear p' iL P q0;by_cases I':1<y
 focus
  have N6:(1:V)<(y:V):=M;have Q:=T (yB _ g A N cap b c1 2 u.cur);rw [qk I'] at q;rw [<-q.out] at Q;unfold jS at Q;go_wp2_with fail;refine zC Q ?_;rintro cB ⟨G',X⟩;have m:=T (u.step G' X);have hh:=T (yv cL X);clear G' X u' D' g1 f1;have ih:=T (w cB m.cur);obtain⟨q0,-,-,-,-⟩:=m.cells;go_wp2_with fail
 rotate_left
 focus
  have N6: ¬(1:V)<(y:V):=M;rw [qJ I'] at q;rw [<-q.out] at u;have m:=u;have hh:=cL;go_wp2_with fail;generalize w1.setCell ⟨gf,1,none⟩ y=cB at*;clear u' D' g1 f1;have ih:=T (w cB m.cur);obtain⟨q0,-,-,-,-⟩:=m.cells
 all_goals
  refine zC ih ?_;rintro w3 ⟨D,t⟩;have n:=m.step D t;have g2:=n.cells.2.2.1;have f2:=n.frz 2;have i:=T (n.GS n3);have F:=T (Qf (yv hh t) 2 n3);have E:=T (v _ i.cur);obtain⟨iv,-,-,-,-⟩:=i.cells;clear D t n m hh q0;go_wp2_with fail;refine zC E ?_;rintro R ⟨K,s⟩;have o:=i.step K s;have qj:=o.cells.2.2.2.1;have cK:=o.frz 3;have f:=T (o.gJ a);have j:=T (Qf (yv F s) 3 a);obtain⟨uK,-,z,C,-⟩:=f.cells;have M':DW (1032*(a:V))=1032*(a:V):=SX;have J':DW (1032*(a:V)+64)=1032*(a:V)+64:=SX;clear K s o iv g2 f2;go_wp2_with fail;generalize R.setCell ⟨gf,3,none⟩ a=B at*;clear qj cK;by_cases L:1032*a+64<n3
  focus
   have m':1032*(a:V)+64<(n3:V):=M;rw [qk L] at d
  rotate_left
  focus
   have m': ¬1032*(a:V)+64<(n3:V):=M;rw [qJ L] at d
  rotate_left
  all_goals
   go_quiet (fail);have c:=T (f.fresh ((Dr.refl B|>.drewN nq).below _));have p:=T (j.drewN nq)
  ·have l:=T (yB _ g A N cap b c4 6 c.cur);rw [<-d.out] at l;unfold jS at l;obtain⟨e,-,-,-,-⟩:=c.cells;go_wp2_with fail;refine zC l ?_;rintro w6 ⟨x,r⟩;have d':=T (c.step x r);have cY:=T (yv p r);clear x r uK z C e;go_wp2;go_end0;exact⟨rfl,d',cY⟩
  ·rw [<-d.out] at c;clear uK z C;go_wp2;go_end0;exact⟨rfl,c,p⟩
theorem g9 (z:AB): ∀(l:qn),vk (l++[z])=vk l+z.toNat*256^U l
 |[]=>by simp [vk]
 |c::t=>by
  show c.toNat+256*vk (t++[z])=c.toNat+256*vk t+z.toNat*256^(U t+1)
  rw [g9 z t,vB,Nat.mul_add];have:256*(z.toNat*256^U t)=z.toNat*(256^U t*256):=by rw [xH,Nat.mul_assoc]
  omega
theorem Yy: ∀(l:qn),vk l<256^U l
 |[]=>by simp [vk]
 |c::t=>by
  show c.toNat+256*vk t<256^(U t+1)
  have:=Yy t;have a:=c.toNat_lt;rw [vB];omega
theorem VW (W:I) (g:O) (A:q') (N cap:O) (b:qn) (c:Cu) (n:O) (h:Lr W g A N cap b c) (h1:1<=n) (h7:n<8):
  xG 193 #[mJ g,n] W (jS W g A N cap b (.int .u64 (Yb b n c).1) (Yb b n c).2):=by
 have r:=T (Qs W g A N cap b c (n:V) h);have B:Yb b n c=(vk (jW b n c).1,(jW b n c).2):=by unfold Yb;rw [qJ M]
 have L:(jW b n c).1.length<=n:=by
  unfold jW;dsimp only;split
  ·exact qp _
  ·rw [qh,show((n:O):V).toNat=n from rfl];omega
 rw [B];dsimp only;generalize (jW b n c).1=a,(jW b n c).2=c2 at*;have D': ¬(n:V)<1:=M;have Q: ¬(8:V)<(n:V):=M;unfold X1 at r;unfold jS;clear h B;go_in;go_wp2_with fail;refine r.mono ?_;rintro e ih ⟨A1,c1,rfl,x,E,w⟩;have uK:=T x;have H:=T E;have C:=T (E'.zY w);clear x E w;obtain⟨m,d⟩:=zn (U a);rw [<-d] at C L⊢;replace d:=T d;go_wp2;go_loopw [5,20] (λK s wr=> ∃k:O,K= .int .u64 (vk (a.take k))/\s=(k:la)/\k<=m/\wr=ih) (λ_ s _=>m-(intOf s).toNat)
 ·exact⟨0,by first|rfl|simp [vk],rfl,qp _,rfl⟩
 ·obtain⟨k,rfl,rfl,hk,rfl⟩:=hrel;by_cases F:k<m
  ·have z':=j' k m;obtain⟨ad,z,rfl,-,y,cL⟩:=C.byte F;have t:U (a.take k)=k:=by rw [qh,<-d.out];omega
   have D:G (vk (a.take (k+1))=vk (a.take k)+z.toNat*256^k):=by
    rw [Hid,qs,y];have:=g9 z (a.take k);rw [t] at this;exact this
   have p:=Yy (a.take k);rw [t] at p;have v:=Yy (a.take (k+1));rw [qh,show min (k+1) (U a)=k+1 by rw [<-d.out];omega] at v;generalize u:vk (a.take (k+1))=o at*;replace u:=T u;generalize vk (a.take k)=X at*;obtain⟨P,i⟩:=zn (256^k);obtain⟨iv,l⟩:=zn (8*k);have f:256^k=2^iv:=by rw [l,Nat.pow_mul]
   have ck:(2:V)^iv=(P:V):=by rw [i,f,j6];rfl
   obtain⟨cB,j⟩:=zn (z.toNat*P);have iL:o<18446744073709551616:=qB v (by have:=zZ (show 0<256 by omega) (show k+1<=8 by omega);simpa using this);have q:o=X+cB:=by rw [D.out,j,i]
   have m':(z.toNat:V)*(P:V)=(cB:V):=by rw [j,zB]
   have wz:IntKind.u64.wrap (z.toNat:V)=(z.toNat:V):=by have:=z.toNat_lt;rw [qS];omega
   have wZ:IntKind.u64.wrap (cB:V)=(cB:V):=by rw [qS];omega
   have R:bits .or .u64 (X:V) (cB:V)=(o:V):=by
    have hh:cB|||X=cB+X:=nat_join iv cB X (by rw [j,i,f];exact Nat.mul_mod_left _ _) (by rw [<-f];exact p);rw [u64_or_nat X cB M M,Nat.or_comm,hh,q,Nat.add_comm]
   have cY:DW (8*(k:V))=(iv:V):=SX;have I':wrap64 (8*(k:V))=(iv:V):=by rw [wrap64];omega
   have qj: ¬(iv:V)<0:=M;have u':iv<64:=M;have G':(iv:V)<64:=M;have d':=xi k;have p':min iv 64=iv:=M;revert i l j q f;refine Jx ?_;intro i l j q f;clear t y p v;generalize z.toNat=zz at*;go_wp2_with fail;refine xk ?_;exact⟨k+1,by rw [u.out],xg,M,y'⟩
  ·obtain rfl:k=m:=M;have ln:G (vk (a.take k)=vk a):=by rw [Hid,qH (by rw [<-d.out];exact qx _)]
   generalize vk (a.take k)=cK at*;go_wp2;go_ret;rw [<-ln.out];exact⟨rfl,uK,H⟩
theorem Qa (x n:O):U (GF x n)=n:=by unfold GF;simp
theorem TJ (x n k r:O) (b:k<n) (a:r=x/256^k%256) (zs:S la) (d:U zs=n) (h:zs.take k=((GF x n).map B8).take k):(zs.set k (gR (r:V))).take (k+1)=((GF x n).map B8).take (k+1):=by
 have c:((GF x n).map B8)[k]? =J (gR (r:V)):=by
  rw [qD];unfold GF;simp only [qD,jJ b,Za];rw [a];show some (Value.int .u8 ((UInt8.ofNat (x/256^k)).toNat:V))=_;rw [zS]
 rw [qs,qs,c,Qq M,<-h,List.take_set_of_le (qx _)]
theorem Vw (x n:O) (w:I) (h1:1<=n) (h7:n<8) (g:x<256^n):
  xG 63 #[.int .u64 x,n] w (Qr 5 w (GF x n) 0):=by
 obtain⟨E,hi,v,m,y⟩:=xt QB;have m': ¬(n:V)<1:=M;have cY: ¬(8:V)<(n:V):=M;have cB:(n:V)<8:=M;have uK:E.bytes*n<=281474976710656:=by rw [y.out];omega
 have qj:n<=maxLen:=SJ;have Q:G (x<18446744073709551616):=qB g (by have:=zZ (show 0<256 by omega) (show n<=8 by omega);simpa using this);have f: ∀k,(256:O)^k=2^(8*k):=λk=>by rw [Nat.pow_mul]
 have D:(x:V)/2^(8*n)=0:=by
  have:((x:V)/2^(8*n))=((x/2^(8*n):O):V):=by rw [JK,j6];rfl
  rw [this,xW (by rw [<-f];exact g)];rfl
 obtain⟨iv,a⟩:=zn (8*n);have A:DW (8*(n:V))=(iv:V):=SX;have K:wrap64 (8*(n:V))=(iv:V):=by rw [wrap64];omega
 have z: ¬(iv:V)<0:=M;have C:iv<64:=M;have hh:(iv:V)<64:=M;rw [<-a] at D;replace f:=T f;replace a:=T a;have l:=T (Qa x n);unfold Qr;obtain⟨c,j⟩:=zn (GF x n);rw [<-j] at l⊢;replace j:=T j;replace g:=T g;go_in;go_wp2_with (at_make;refine xP _ rfl _ _ 30 rfl w 5 E (gR 0) 1 qu hi v m .i64 .i64 _ _ n rfl rfl rfl rfl uK qj (qx _) ?_;intro L i H);have ln:=T (show r' w w L from(qZ w w).grown H (qx _) (λk ih=>by cases ih));replace i:=T i;clear H D A K z C hh;go_loopw [29] (λo wr=> ∃(k:O) (zs:S la),o=(k:la)/\k<=n/\G (r' w w wr)/\G (xp wr w 5 1 (Z w n n) n zs)/\G (zs.take k=(c.map B8).take k)) (λo _=>n-(intOf o).toNat)
 ·exact⟨0,_,rfl,qp _,ln,i,y8⟩
 ·obtain⟨k,zs,rfl,ih,s,b,e⟩:=hrel;have t:=b.out.1;rw [z_] at t;by_cases B:k<n
  ·have d':=j' k n;obtain⟨cK,hf⟩:=xU b B;rw [qX M] at cK;obtain⟨q,d⟩:=zn (x/256^k);obtain⟨r,u⟩:=zn (q%256);obtain⟨iv,a⟩:=zn (8*k);have X:(x:V)/2^iv=(q:V):=by rw [d,a,f.out,JK,j6];rfl
   have ck:q<18446744073709551616:=by rw [d];exact vQ (xr _ _) Q.out
   have A:DW (8*(k:V))=(iv:V):=SX;have K:wrap64 (8*(k:V))=(iv:V):=by rw [wrap64];omega
   have z: ¬(iv:V)<0:=M;have C:iv<64:=M;have hh:(iv:V)<64:=M;have iL:IntKind.u8.wrap (q:V)=(r:V):=by rw [va];omega
   have W:=xi k;have P:G (xp (wr.setCell ⟨w,k,none⟩ (gR (r:V))) w 5 1 (Z w n n) n (zs.set k (gR (r:V)))):=Qn b _;have cL:G (r' w w (wr.setCell ⟨w,k,none⟩ (gR (r:V)))):=s.setCell (p:=⟨w,k,none⟩) (qx _) _;have R:G ((zs.set k (gR (r:V))).take (k+1)=(c.map B8).take (k+1)):=by
    have h:=e.out;rw [j.out] at h⊢;exact TJ x n k r B (by rw [u,d]) zs t h
   revert d u a;refine vn ?_;intro d u a;generalize zs.set k (gR (r:V))=N at*;clear e b s;go_wp2_with fail;refine xk ?_;exact⟨k+1,N,xg,M,cL,P,R⟩
  ·obtain rfl:k=n:=M;have F:G (zs=c.map B8):=by
    have h:=e.out;rw [qH M,qH (by rw [zH,l.out];omega)] at h;exact h
   rw [F.out] at b;clear e t;go_wp2;go_ret2;exact⟨_,_,by rw [l.out];rfl,by rw [l.out];exact⟨b,s⟩⟩
end
end Go.Proofs.YtfnlfpcfkbdcmaaGreatDoor
