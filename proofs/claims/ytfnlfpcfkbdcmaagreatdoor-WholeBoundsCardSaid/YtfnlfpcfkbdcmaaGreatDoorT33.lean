import Derived.Test.YtfnlfpcfkbdcmaaGreatDoorT31
import Derived.Test.YtfnlfpcfkbdcmaaGreatDoorT32
set_option linter.unusedSimpArgs false
set_option linter.unusedVariables false
set_option maxRecDepth 100000
set_option maxHeartbeats 0
open Go.Proofs.Tryz
namespace Go.Proofs.YtfnlfpcfkbdcmaaGreatDoor
open Go.RowKit
theorem Gu (A f:q') (n g c a B h:O) (b d:qn) (w:I) (h1:E' w B 1 A n (b.map B8)) (h2:E' w h 1 f g (d.map B8)):
  xG 25 #[Z A n c,Z f g a] w λe w'=>e=t' (.bool (decide (b=d)))/\w=w':=by
 have j:=Kf (P:=prog) (w:=w) (c:=c) 30 9 5 qu xS ju h1;have i:=Kf (P:=prog) (w:=w) (c:=a) 30 9 5 qu xS ju h2;go_wp2;go_ret;exact⟨j7 (by rw [yx,yp,jo]),rfl⟩
def Zl (v n a b:V) (c:Bool):Array Value:= #[v,n,a,b,c]
theorem Py:(prog.info? 48).map (·.size)=some 5:=AL
theorem U6 (v n a b:V) (c:Bool):(Zl v n a b c).all (·.oneCell')=true:=by simp [Zl,Value.oneCell']
theorem NK (A:q') (n c:O) (b:qn) (v:V) (o:Lx) (l:S JH) (m j:O) (W:I) (ht:Pl W) (h:E' W W 1 A n (b.map B8)) (cK:n<=c) (R:c<=maxLen) (hn:n<=100000000) (hu:LR\/TA b=true)
  (hE:QW b=0) (hU:xX b=⟨v,o,l,m,j⟩) (hp:Pv v o l=(0,b)) (hl:U l<=20000) (hd: -9223372036854775808<=o.data/\o.data<=9223372036854775807) (z': ∀r∈l,Yj r)
  (u':v=1->vM 1 o=0->kF l=0->rI o l) (m':v=2->vM 2 o=0->kF l=0->pQ o l/\U (JT o l)<=999999000)
  (p':v=3->vM 3 o=0->kF l=0->pQ o l/\Sb o (U (JT o l))=0):
  xG 17 #[Z A n c] W λe a=>e=t' (BA #[.agg (Zl v (U l:O) m j true),()])/\r' W W a:=by
 have w:G (r' W W (W (Y #[(),(),(),(),false] 48))):=j1 _;have ln:G (F' (W (Y #[(),(),(),(),false] 48)) W 48 (Zl 0 0 0 0 false)):=F'.new _ _ _;have D:=GJ A n c b (W (Y #[(),(),(),(),false] 48)) (ht.below w ht.pos) ((h.below w).more w.size) cK R hn hu;have z:=T (λcY A c B ht N' h iv cK R=>U5 v o A c B l cY ht N' h iv M cK R hd (λ_=>z') u' m' p');rw [hp] at z;unfold Jf Ld at z;dsimp only at z;unfold sK at D;rw [hE,hU] at D;dsimp only at D;have HR:=T h;have Q:=T ht;have O':=T h.len;have P':=hl;clear h ht hE hU hp u' m' p' z';generalize N6:W (Y #[(),(),(),(),false] 48)=q at*;have I':G (xG 23 #[Z A n c] q λe w'=> ∃g s d c1,e=t' (BA #[mJ (some ⟨g,0,none⟩),()])/\d=U l/\(q:O)<=g/\F' w' g 58 (unA v (d:O) m j false o (Z s d c1))/\xp w' q 45 4 (Z s d c1) d (ji l)/\r' q q w'):=T (D.mono (by
  rintro e w' ⟨iv,⟨h0,_⟩|⟨_,g,A,n,c,he,h1,h2,h3,h4⟩⟩
  ·exact absurd rfl h0
  ·exact⟨g,A,n,c,he,h1,h2,h3,h4,iv⟩))
 subst N6;clear D;go_in;go_wp2_with fail;generalize W (Y #[(),(),(),(),false] 48)=q at*;refine I'.mono ?_;rintro e i ⟨g,s,d,c1,rfl,x,cL,X,E,uK⟩;have t:=T (w.trans (uK.mono w.size));have P:=T (ln.below uK ln.lt);have u:=T X;have M':=T E;have iL:G ((W:O)<(q:O)):=ln.lt;have OX:=T cL;have N:=jC E;have J':G (g≠(W:O)):=by have h1:=iL.out;have h2:=cL;rw [Hid];omega
 unfold unA at u;have K:G (∀a,r' i i a->i' a g=J (v:la)/\i' a ⟨g,5,none⟩=J (o.blk:la)/\i' a ⟨g,6,none⟩=J (.bool o.plain)/\i' a ⟨g,7,none⟩=J (o.bkt:la)/\i' a ⟨g,8,none⟩=J (o.data:la)/\i' a ⟨g,9,none⟩=J (o.par:la)/\i' a ⟨g,10,none⟩=J (o.chunk:la)/\i' a ⟨g,11,none⟩=J (Z s d c1)):=λa hW=>by
  have cB:=u.below hW u.lt;exact⟨cB.cell 0,cB.cell 5,cB.cell 6,cB.cell 7,cB.cell 8,cB.cell 9,cB.cell 10,cB.cell 11⟩
 have G':r' i i i.drew:=(qZ _ _).drew;have y:=z i.drew s c1 (i.drew:O) (Q.below (t.trans (G'.mono t.size)) Q.pos) (qB Q.pos t.size) (by rw [<-x];exact E'.zY E) (qx _) (by rw [<-x];exact N.1) N.2;rw [<-x] at y;replace y:=T y;replace x:=T x;clear X E uK cL G' N;go_wp2_with fail;refine zv 19 (λa=>i' a g=J (v:la)/\i' a ⟨g,5,none⟩=J (o.blk:la)/\i' a ⟨g,6,none⟩=J (.bool o.plain)/\i' a ⟨g,7,none⟩=J (o.bkt:la)/\i' a ⟨g,8,none⟩=J (o.data:la)/\i' a ⟨g,9,none⟩=J (o.par:la)/\i' a ⟨g,10,none⟩=J (o.chunk:la)/\i' a ⟨g,11,none⟩=J (Z s d c1)) AL (K _ (qZ _ _).drew) (λck=> ?_);refine zq [0,1,2,3,4,5] (a':= ?_) ?_;refine zq [6,7,8,9,10,11] (a':= ?_) ?_;refine zq [12] (a':= ?_) ?_;refine vf 13 y ?_;rintro e f ⟨A2,c2,rfl,ih⟩;refine⟨_,rfl,((K _ ((qZ _ i).drew.trans ih.2))),λck=> ?_⟩;refine zq [14,15,16,17,18] (a':= ?_) ?_;refine zV AL ?_ _;have H:r' i i f:=(qZ _ i).drew.trans ih.2;have F:=T (t.trans (H.mono t.size));have D':=T (P.below H P.lt);have hh:=T (u.below H u.lt);have L:=T (Gu A2 A b n c2 c f W b b f ih.reads (HR.below F));rw [qw (rfl:b=b)] at L;have q4:i' f ⟨g,4,none⟩=J (.bool false):=hh.cell 4;have r4:=hh.frozen 4;clear ih H K ck;go_wp2_with fail;refine Ω L ?_;have C:G (F' (f.setCell ⟨g,4,none⟩ true) g 58 #[v,d,m,j,true,o.blk, .bool o.plain,o.bkt,o.data,o.par,o.chunk,Z s d c1]):=hh.zh 4 true;have qj:qE [g] f (f.setCell ⟨g,4,none⟩ true):=(qE.refl [g] f).zh (p:=⟨g,4,none⟩) (qy.2 rfl) _;have d':=T (qj.blk D' (by simpa using λe=>J'.out e.symm));have N9:=T (F.trans (qj.below (λk hk=>by rw [qy.1 hk];exact zr (qB iL OX)) F.size));have s0:i' (f.setCell ⟨g,4,none⟩ true) g=J (v:la):=C.cell 0;have s1:i' (f.setCell ⟨g,4,none⟩ true) ⟨g,1,none⟩=J (d:la):=C.cell 1;have s2:i' (f.setCell ⟨g,4,none⟩ true) ⟨g,2,none⟩=J (m:la):=C.cell 2;have s3:i' (f.setCell ⟨g,4,none⟩ true) ⟨g,3,none⟩=J (j:la):=C.cell 3;have s4:i' (f.setCell ⟨g,4,none⟩ true) ⟨g,4,none⟩=J (.bool true):=C.cell 4;clear qj;go_wp2_with (first|(refine qC rfl 48 _ _ rfl W (Zl v (d:V) m j true) rfl rfl 48 (Zl 0 0 0 0 false) d'.out Py rfl (U6 _ _ _ _ _) ?_));refine qW (zN rfl _ _ W (Zl v (d:V) m j true) () rfl rfl (qN _ W 48 _ (Zl v (d:V) m j true) (0,0) _ (d'.row _) underlying48 rfl Py)) rfl ?_;rw [x.out];exact⟨rfl,zu N9 (qx _) _⟩
def GU (v:V) (a:Array la):Prop:=
 ∃(bs:qn) (f b:O),(∀(cY:I) (A:q') (c B:O),Pl cY->0<B->E' cY B 4 A 2 (ji kA)->B<=(cY:O)->2<=c->c<=maxLen->xG 10 #[v, .agg a,Z A 2 c] cY (Jf cY (0,bs)))/\
  (∀(cY:I) (A:q') (c:O),Pl cY->E' cY cY 1 A bs (bs.map B8)->U bs<=c->c<=maxLen->xG 17 #[Z A bs c] cY λe d=>e=t' (BA #[.agg (Zl v 2 f b true),()])/\r' cY cY d)
theorem T3 {v:V} {o:Lx} {bs:qn} (d: -9223372036854775808<=o.data/\o.data<=9223372036854775807) (g:Pv v o kA=(0,bs)) (m:QW bs=0) (h1:(xX bs).v=v) (h2:(xX bs).o=o) (h3:(xX bs).l=kA) (u:U bs<=100000) (j:TA bs=true)
  (i:v=1->vM 1 o=0->kF kA=0->rI o kA) (e:v=2->vM 2 o=0->kF kA=0->pQ o kA/\U (JT o kA)<=999999000)
  (f:v=3->vM 3 o=0->kF kA=0->pQ o kA/\Sb o (U (JT o kA))=0):GU v (Ld o):=by
 have k:xX bs=⟨v,o,kA,(xX bs).blocks,(xX bs).bad⟩:=by
  generalize xX bs=x at*;obtain⟨r,t,s,w,q⟩:=x;dsimp only at h1 h2 h3;rw [h1,h2,h3]
 refine⟨bs,(xX bs).blocks,(xX bs).bad,λy A c B ht p h n b a=> ?_,λy A c ht h b a=> ?_⟩
 ·have K:=U5 v o A c B kA y ht p h n FV b a d (λ_=>iR) i e f;rw [g] at K;exact K
 ·exact NK A bs c bs v o kA _ _ y ht h b a M (.inr j) m k g FV d iR i e f
theorem LC:GU 1 (Ld H7):=T3 FV pk1 un1.1 un1.2.1 un1.2.2.1 un1.2.2.2.1 un1.2.2.2.2 qqR (λ_ _ _=>l9) (λh=>absurd h FV) (λh=>absurd h FV)
theorem LA:GU 2 (Ld Bn):=T3 FV pk2 un2.1 un2.2.1 un2.2.2.1 un2.2.2.2.1 un2.2.2.2.2 qqt (λh=>absurd h FV) (λ_ _ _=>⟨l_,Lz⟩) (λh=>absurd h FV)
theorem Le:GU 3 (Ld bF):=T3 FV pk3 un3.1 un3.2.1 un3.2.2.1 un3.2.2.2.1 un3.2.2.2.2 qqT (λh=>absurd h FV) (λh=>absurd h FV) (λ_ _ _=>⟨Lq,Lc⟩)
theorem T4 (w:I) (a:S la) (t:TypeId) (size n:O) (h:U a=n*size):E' (w (Y a.toArray t)) ((w:O)+1) size w n a:=by
 refine⟨h,λ_=>⟨_,rfl,ze _,λj u b=> ?_⟩⟩;have e:((w:O):Addr).add j=⟨w,j,none⟩:=by unfold Addr.add;split<;>simp_all
 rw [e,(F'.new w t a.toArray).cell j];simpa using b
theorem r9 (w:I) (ht:Pl w) (ck:GU 1 (Ld H7)) (a2:GU 2 (Ld Bn)) (cB:GU 3 (Ld bF)):xG 7 #[] w λe w'=>e=t' (.bool true)/\r' w w w':=by
 have N:r' w w (w (Y #[.int .u64 5,gR 1, .string ⟨#[100,98]⟩, .string ⟨#[100,105,115,107,32,102,117,108,108]⟩, .int .u64 3,gR 0, .string ⟨#[]⟩, .string ⟨#[100,105,115,107,32,111,107]⟩] 45)):=(qZ _ _).alloc (qx _) _;have R:(w (Y #[.int .u64 5,gR 1, .string ⟨#[100,98]⟩, .string ⟨#[100,105,115,107,32,102,117,108,108]⟩, .int .u64 3,gR 0, .string ⟨#[]⟩, .string ⟨#[100,105,115,107,32,111,107]⟩] 45):O)=(w:O)+1:=s8;have K:r' (w (Y #[.int .u64 5,gR 1, .string ⟨#[100,98]⟩, .string ⟨#[100,105,115,107,32,102,117,108,108]⟩, .int .u64 3,gR 0, .string ⟨#[]⟩, .string ⟨#[100,105,115,107,32,111,107]⟩] 45):O) (w (Y #[.int .u64 5,gR 1, .string ⟨#[100,98]⟩, .string ⟨#[100,105,115,107,32,102,117,108,108]⟩, .int .u64 3,gR 0, .string ⟨#[]⟩, .string ⟨#[100,105,115,107,32,111,107]⟩] 45)) ((w (Y #[.int .u64 5,gR 1, .string ⟨#[100,98]⟩, .string ⟨#[100,105,115,107,32,102,117,108,108]⟩, .int .u64 3,gR 0, .string ⟨#[]⟩, .string ⟨#[100,105,115,107,32,111,107]⟩] 45)) (Y #[e' 64, .bool false,(),(),(),(),e' 64, .bool false,e' 2,(),(),(),e' 64, .bool false,e' 2,e' 2,e' 1,e' 16] 23)):=(qZ _ _).alloc (qx _) _;have P:E' (w (Y #[.int .u64 5,gR 1, .string ⟨#[100,98]⟩, .string ⟨#[100,105,115,107,32,102,117,108,108]⟩, .int .u64 3,gR 0, .string ⟨#[]⟩, .string ⟨#[100,105,115,107,32,111,107]⟩] 45)) ((w:O)+1) 4 w 2 (ji kA):=T4 w (ji kA) _ 4 2 rfl;rw [<-R] at P;have L:=T ((P.below K).more K.size);have t:G (F' ((w (Y #[.int .u64 5,gR 1, .string ⟨#[100,98]⟩, .string ⟨#[100,105,115,107,32,102,117,108,108]⟩, .int .u64 3,gR 0, .string ⟨#[]⟩, .string ⟨#[100,105,115,107,32,111,107]⟩] 45)) (Y #[e' 64, .bool false,(),(),(),(),e' 64, .bool false,e' 2,(),(),(),e' 64, .bool false,e' 2,e' 2,e' 1,e' 16] 23)) ((w:O)+1) 23 #[e' 64, .bool false,(),(),(),(),e' 64, .bool false,e' 2,(),(),(),e' 64, .bool false,e' 2,e' 2,e' 1,e' 16]):=by rw [Hid,<-R];exact F'.new _ _ _
 have ih:=T (N.trans (K.mono N.size));have p:=T (ht.below ih ht.pos);have iv:G (0<((w (Y #[.int .u64 5,gR 1, .string ⟨#[100,98]⟩, .string ⟨#[100,105,115,107,32,102,117,108,108]⟩, .int .u64 3,gR 0, .string ⟨#[]⟩, .string ⟨#[100,105,115,107,32,111,107]⟩] 45)) (Y #[e' 64, .bool false,(),(),(),(),e' 64, .bool false,e' 2,(),(),(),e' 64, .bool false,e' 2,e' 2,e' 1,e' 16] 23):O)):=qB ht.pos ih.size;clear ht N R K P;go_enter func7,ntmps7
 go_wp2_with fail;generalize (w (Y #[.int .u64 5,gR 1, .string ⟨#[100,98]⟩, .string ⟨#[100,105,115,107,32,102,117,108,108]⟩, .int .u64 3,gR 0, .string ⟨#[]⟩, .string ⟨#[100,105,115,107,32,111,107]⟩] 45)) (Y #[e' 64, .bool false,(),(),(),(),e' 64, .bool false,e' 2,(),(),(),e' 64, .bool false,e' 2,e' 2,e' 1,e' 16] 23)=C at*
 generalize d':(w:O)+1=g at*
 generalize Q:(w:O)=cL at*
 go_loopw [3] (λuK wr=> ∃v:O,uK=(v:la)/\(1<=v/\v<=4)/\G (r' C C wr)) (λuK _=>4-(intOf uK).toNat)
 case atStart=>exact⟨1,rfl,⟨M,M⟩,qZ _ _⟩
 case round=>
  obtain⟨v,rfl,X,f⟩:=hrel;have W:v=1\/v=2\/v=3\/v=4:=M;clear X;rcases W with rfl|rfl|rfl|rfl
  focus
   rw [show((1:O):V)=1 from rfl]
   obtain⟨bs,c,b,h,j⟩:=ck;unfold Jf at h;dsimp only at h;obtain⟨n,q⟩: ∃n,n=U bs:=⟨_,rfl⟩;rw [<-q] at h j;have d:=h wr cL 2 C (p.below f p.pos) iv (L.below f) f.size FV FV;have HOr:=t.below f t.lt;unfold Ld at d;dsimp only [H7] at d;replace d:=T d;replace j:=T j;replace q:=T q;have F:i' wr g=J (e' 64):=HOr.cell 0;have A:i' wr ⟨g,1,none⟩=J (.bool false):=HOr.cell 1;have D:i' wr ⟨g,2,none⟩=J (e' 0):=HOr.cell 2;have B:i' wr ⟨g,3,none⟩=J (e' 0):=HOr.cell 3;have ln:i' wr ⟨g,4,none⟩=J (e' 0):=HOr.cell 4;have H:i' wr ⟨g,5,none⟩=J (e' 0):=HOr.cell 5
  rotate_left
  focus
   rw [show((2:O):V)=2 from rfl]
   obtain⟨bs,c,b,h,j⟩:=a2;unfold Jf at h;dsimp only at h;obtain⟨n,q⟩: ∃n,n=U bs:=⟨_,rfl⟩;rw [<-q] at h j;have d:=h wr cL 2 C (p.below f p.pos) iv (L.below f) f.size FV FV;have HOr:=t.below f t.lt;unfold Ld at d;dsimp only [Bn] at d;replace d:=T d;replace j:=T j;replace q:=T q;have F:i' wr ⟨g,6,none⟩=J (e' 64):=HOr.cell 6;have A:i' wr ⟨g,7,none⟩=J (.bool false):=HOr.cell 7;have D:i' wr ⟨g,8,none⟩=J (e' 2):=HOr.cell 8;have B:i' wr ⟨g,9,none⟩=J (e' 0):=HOr.cell 9;have ln:i' wr ⟨g,10,none⟩=J (e' 0):=HOr.cell 10;have H:i' wr ⟨g,11,none⟩=J (e' 0):=HOr.cell 11
  rotate_left
  focus
   rw [show((3:O):V)=3 from rfl]
   obtain⟨bs,c,b,h,j⟩:=cB;unfold Jf at h;dsimp only at h;obtain⟨n,q⟩: ∃n,n=U bs:=⟨_,rfl⟩;rw [<-q] at h j;have d:=h wr cL 2 C (p.below f p.pos) iv (L.below f) f.size FV FV;have HOr:=t.below f t.lt;unfold Ld at d;dsimp only [bF] at d;replace d:=T d;replace j:=T j;replace q:=T q;have F:i' wr ⟨g,12,none⟩=J (e' 64):=HOr.cell 12;have A:i' wr ⟨g,13,none⟩=J (.bool false):=HOr.cell 13;have D:i' wr ⟨g,14,none⟩=J (e' 2):=HOr.cell 14;have B:i' wr ⟨g,15,none⟩=J (e' 2):=HOr.cell 15;have ln:i' wr ⟨g,16,none⟩=J (e' 1):=HOr.cell 16;have H:i' wr ⟨g,17,none⟩=J (e' 16):=HOr.cell 17
  rotate_left
  ·rw [show((4:O):V)=4 from rfl]
   go_wp2_with fail;go_ret;have hh:=ih.trans (f.mono (by rw [<-Q];exact ih.size))
   exact⟨rfl,by first|exact hh|(rw [Q];exact hh)|(rw [<-Q] at hh;exact hh)⟩
  all_goals
   clear h HOr
   go_wp2_with fail;refine d.mono ?_;rintro e u ⟨z,x,rfl,i⟩;have l:=T (f.trans (i.2.mono f.size));have m:=j.out u z x (p.below l p.pos) i.reads (jC i.1).1 (jC i.1).2;replace m:=T m;clear d i j F A D B ln H
   go_wp2_with fail;refine m.mono ?_;rintro e a ⟨rfl,r⟩;have k:=T (l.trans (r.mono l.size));clear m r;have s:G (F' (a (Y #[(),(),(),(), .bool false] 48)) a 48 (Zl 0 0 0 0 false)):=F'.new _ _ _;have E:=T (k.alloc k.size (Y #[(),(),(),(), .bool false] 48))
  ·have y:=T (zu E k.size (Zl 1 2 (c:V) (b:V) true));have o:G (F' ((a (Y #[(),(),(),(), .bool false] 48)).setRow a (Zl 1 2 (c:V) (b:V) true)) a 48 (Zl 1 2 (c:V) (b:V) true)):=s.row _;have cY:i' ((a (Y #[(),(),(),(), .bool false] 48)).setRow a (Zl 1 2 (c:V) (b:V) true)) ⟨a,4,none⟩=J (.bool true):=o.cell 4;have qj:i' ((a (Y #[(),(),(),(), .bool false] 48)).setRow a (Zl 1 2 (c:V) (b:V) true)) (a:O)=J (e' 1):=o.cell 0;have cK:i' ((a (Y #[(),(),(),(), .bool false] 48)).setRow a (Zl 1 2 (c:V) (b:V) true)) ⟨a,1,none⟩=J (e' 2):=o.cell 1;clear o k l
   go_wp2_with (first|(refine qC rfl 48 _ _ rfl a (Zl 1 2 (c:V) (b:V) true) rfl rfl 48 (Zl 0 0 0 0 false) s.out Py rfl (U6 _ _ _ _ _) ?_))
   go_roundw
   case rel=>exact⟨2,by first|rfl|simp,M,y⟩
   case measure=>simp [intOf]
  ·have y:=T (zu E k.size (Zl 2 2 (c:V) (b:V) true));have o:G (F' ((a (Y #[(),(),(),(), .bool false] 48)).setRow a (Zl 2 2 (c:V) (b:V) true)) a 48 (Zl 2 2 (c:V) (b:V) true)):=s.row _;have cY:i' ((a (Y #[(),(),(),(), .bool false] 48)).setRow a (Zl 2 2 (c:V) (b:V) true)) ⟨a,4,none⟩=J (.bool true):=o.cell 4;have qj:i' ((a (Y #[(),(),(),(), .bool false] 48)).setRow a (Zl 2 2 (c:V) (b:V) true)) (a:O)=J (e' 2):=o.cell 0;have cK:i' ((a (Y #[(),(),(),(), .bool false] 48)).setRow a (Zl 2 2 (c:V) (b:V) true)) ⟨a,1,none⟩=J (e' 2):=o.cell 1;clear o k l
   go_wp2_with (first|(refine qC rfl 48 _ _ rfl a (Zl 2 2 (c:V) (b:V) true) rfl rfl 48 (Zl 0 0 0 0 false) s.out Py rfl (U6 _ _ _ _ _) ?_))
   go_roundw
   case rel=>exact⟨3,by first|rfl|simp,M,y⟩
   case measure=>simp [intOf]
  ·have y:=T (zu E k.size (Zl 3 2 (c:V) (b:V) true));have o:G (F' ((a (Y #[(),(),(),(), .bool false] 48)).setRow a (Zl 3 2 (c:V) (b:V) true)) a 48 (Zl 3 2 (c:V) (b:V) true)):=s.row _;have cY:i' ((a (Y #[(),(),(),(), .bool false] 48)).setRow a (Zl 3 2 (c:V) (b:V) true)) ⟨a,4,none⟩=J (.bool true):=o.cell 4;have qj:i' ((a (Y #[(),(),(),(), .bool false] 48)).setRow a (Zl 3 2 (c:V) (b:V) true)) (a:O)=J (e' 3):=o.cell 0;have cK:i' ((a (Y #[(),(),(),(), .bool false] 48)).setRow a (Zl 3 2 (c:V) (b:V) true)) ⟨a,1,none⟩=J (e' 2):=o.cell 1;clear o k l
   go_wp2_with (first|(refine qC rfl 48 _ _ rfl a (Zl 3 2 (c:V) (b:V) true) rfl rfl 48 (Zl 0 0 0 0 false) s.out Py rfl (U6 _ _ _ _ _) ?_))
   go_roundw
   case rel=>exact⟨4,by first|rfl|simp,M,y⟩
   case measure=>simp [intOf]
theorem aR (w:I) (ht:Pl w):xG 7 #[] w λe w'=>e=t' true/\r' w w w':=r9 w ht LC LA Le
theorem Nu (b:qn):((unR b).1≠0->(unR b).2.1=[]/\(unR b).2.2=0/\1<=(unR b).1/\(unR b).1<=15)/\((unR b).1=0->kF (unR b).2.1=0/\1<=(unR b).2.2/\(unR b).2.2<=3):=by
 have h:=Th b;unfold V3 at h;unfold unR;by_cases a:QW b=0
 ·rw [qJ (by simpa using a)];exact⟨λh=>absurd rfl h,λ_=>T7 a⟩
 ·rw [qk a];refine⟨λ_=>⟨rfl,rfl, ?_,h.2⟩,λh=>absurd h a⟩;dsimp only;omega
theorem qqa (b:qn):G6 (unR b).2.1<=1100*U b:=by
 unfold unR;split
 ·exact qp _
 ·exact qqV b
theorem L3: ∀l:S JH,hX l=16*U l+G6 l
 |[]=>rfl
 |r::l=>by
  have a:=L3 l;unfold hX G6 at a⊢;simp only [jy,List.sum_cons,qf];omega
theorem D1 (A:Option Addr) (n c:O) (b:S AB) (w:I) (N:n<=c) (K:c<=maxLen) (C:E' w (w:O) 1 A n (b.map B8)) (ht:Pl w):
  xG 4 #[Z A n c] w λe w'=>e=t' (.bool true)/\r' (w:O) w w':=by
 have cY:=T (aR w ht);have F:=T (λW (g:r' (w:O) w W)=>NP A n c (w:O) 6000 b W (C.below g) g.size N K M);have o:=T (λW (g:r' (w:O) w W) (hn:n<=6000)=>GX A n c b W (ht.below g ht.pos) ((C.below g).more g.size) N K M);obtain⟨i,j⟩:=Nu b;unfold ie at o;generalize unR b=R at*
 obtain⟨E,l,v⟩:=R;dsimp only at i j o;replace i:=T i;replace j:=T j;rw [show((6000:O):V)=6000 from rfl] at F
 clear C ht;go_enter func4,ntmps4
 go_wp2_with fail;refine cY.mono ?_;rintro e w1 ⟨rfl,x⟩;have ih:=T x;have uK:=T (F.out w1 x);clear cY F x
 go_wp2_with fail;refine uK.mono ?_;rintro e cB ⟨r,rfl,D,hh⟩;have q:=T (ih.trans (hh.mono ih.size));clear uK hh;cases r
 case true=>
  clear D
  go_wp2_with fail;go_ret;exact⟨rfl,q.out⟩
 have X:=T (D rfl);clear D;have cK:=T (o.out cB q X)
 go_wp2_with fail;refine cK.mono ?_;rintro e ck ⟨B,n1,c1,iL,rfl,H,Q⟩;have ln:=T (q.trans (Q.mono q.size));have L:=T (E'.zY H);subst iL;have cL:=T (o.out ck ln X);clear cK Q H o
 go_wp2_with fail;refine cL.mono ?_;rintro e h ⟨P,n2,c2,m',rfl,iv,z⟩;have t:=T (ln.trans (z.mono ln.size));have k:=L.below z;have p:=E'.zY iv;subst m';clear cL z iv L;by_cases f:E=0
 focus
  subst f;obtain⟨q1,q2,q3⟩:=j.out rfl;obtain⟨g1,-,-⟩:=T8 q1;have d:=T (U7 B P c1 c2 _ _ l h k p M);have y:=T (λW (a:Dr h W)=>Gd B c1 _ l W (a.reads k) M);rw [q1] at y;generalize U l=m at*
  clear k p q1 i j
 rotate_left
 focus
  obtain⟨rfl,rfl,k1,k2⟩:=i.out f;have d:=T (U7 B P c1 c2 _ _ [] h k p FV);have z1:(E==0)=false:=by simpa using f
  have z2:(E !=0)=true:=by simpa using f
  replace f:=T f;rw [zF] at d⊢;clear k p
 rotate_left
 all_goals
  go_wp2_with fail;refine d.mono ?_;rintro e u ⟨rfl,a⟩;have s:=T (t.trans ((a.below (h:O)).mono t.size))
 ·have qj:=T (y.out u a);clear d a y
  go_wp2_with fail;refine qj.mono ?_;rintro e w6 ⟨rfl,a⟩;have d':=T (s.trans ((a.below u).mono s.size));clear qj a
  go_wp2_with fail;go_ret;exact⟨rfl,d'.out⟩
 ·clear d a
  go_wp2_with fail;go_ret;exact⟨rfl,s.out⟩
theorem Lo (A:Option Addr) (n c:O) (b:S AB) (w:I) (H:n<=c) (F:c<=maxLen) (k:E' w (w:O) 1 A n (b.map B8)) (ht:Pl w):
  xG 5 #[Z A n c] w λe w'=>e=t' (.bool true)/\r' (w:O) w w':=by
 have uK:=T (aR w ht);have t:=T (λW (f:r' (w:O) w W)=>NP A n c (w:O) 6000 b W (k.below f) f.size H F M);have o:=T (λW (f:r' (w:O) w W) (hn:n<=6000)=>GX A n c b W (ht.below f ht.pos) ((k.below f).more f.size) H F M);obtain⟨h,i⟩:=Nu b;have a:=qqa b;rw [k.len] at a;unfold ie at o;generalize unR b=R at*
 obtain⟨E,l,v⟩:=R;dsimp only at h i a o;replace h:=T h;replace i:=T i;replace a:=T a;rw [show((6000:O):V)=6000 from rfl] at t
 clear k ht;go_enter func5,ntmps5
 go_wp2_with fail;refine uK.mono ?_;rintro e iv ⟨rfl,p⟩;have B:=T p;have ln:=T (t.out iv p);clear uK t p
 go_wp2_with fail;refine ln.mono ?_;rintro e P ⟨r,rfl,s,D⟩;have j:=T (B.trans (D.mono B.size));clear ln D;cases r
 case true=>
  clear s
  go_wp2_with fail;go_ret;exact⟨rfl,j.out⟩
 have x:=T (s rfl);clear s;have K:=T (o.out P j x)
 go_wp2_with fail;refine K.mono ?_;rintro e z ⟨cL,n1,c1,cK,rfl,y,hh⟩;have u:=T (j.trans (hh.mono j.size));have q:=T (E'.zY y);subst cK;clear K hh y o;by_cases d:E=0
 case neg=>
  obtain⟨rfl,rfl,ck,X⟩:=h.out d;have z1:(E==0)=false:=by simpa using d
  have z2:(E !=0)=true:=by simpa using d
  replace d:=T d;rw [zF];clear q
  go_wp2_with fail;go_ret;exact⟨rfl,u.out⟩
 subst d;obtain⟨q1,q2,q3⟩:=i.out rfl;obtain⟨cB,qj,g3⟩:=T8 q1;have g:=Ls cL c1 _ l z q M;rw [qqQ l 0 qj M,jL] at g;have ih:=L3 l;have C:=a.out;have d':=x.out;generalize hX l=N at*
 generalize G6 l=tw at*
 generalize U l=m at*
 replace g:=T g;clear q q1 h i a x
 go_wp2_with fail;refine g.mono ?_;rintro e cY ⟨rfl,L⟩;have Q:=T (u.trans ((L.below z).mono u.size));clear g L;have u1:DW (16*(m:V))=16*(m:V):=SX
 have u2:DW ((N:V)-16*(m:V))=(tw:V):=SX;have u3:DW (1100*(n:V))=1100*(n:V):=SX;have u4:(tw:V)<=1100*(n:V):=M;replace ih:=T ih;replace C:=T C
 go_wp2_with fail;go_ret;exact⟨rfl,Q.out⟩
end Go.Proofs.YtfnlfpcfkbdcmaaGreatDoor
