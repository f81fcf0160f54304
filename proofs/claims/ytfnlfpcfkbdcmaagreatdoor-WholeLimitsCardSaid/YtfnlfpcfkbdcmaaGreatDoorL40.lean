import Derived.Test.YtfnlfpcfkbdcmaaGreatDoorL38
import Derived.Test.YtfnlfpcfkbdcmaaGreatDoorL39
set_option linter.unusedSimpArgs false
set_option linter.unusedVariables false
set_option maxRecDepth 100000
set_option maxHeartbeats 0
open Go.Proofs.Tryz
namespace Go.Proofs.YtfnlfpcfkbdcmaaGreatDoor
section
open Go.RowKit
variable {l:List Rec}{o:Opt}
theorem B7 (o:Opt) (n:Nat) (p:Bool):(Uu o n p).length=21:=by
 unfold Uu;rw [ve,qK,qK,qK,qK,Qa,Qa,Qa];rfl
theorem aE (o:Opt) (n:Nat) (p:Int) (g:Nat) (A:Option Addr) (m c:Nat) (a:List UInt8) (W:World) (ht:Tab W) (i:Blk W g 76 (h3A o (n:Int) p)) (h:Reads W W 1 A m (a.map B8)) (Q:m<=900000000) (h1:0<=o.blk/\o.blk<=65535) (h2:0<=o.chunk/\o.chunk<=65535) (h3:0<=o.bkt/\o.bkt<=255) (h4:0<=o.data/\o.data<=255) (h5:0<=o.par/\o.par<=255) (L:n<4294967296):
  Calls prog 39 #[.pointer g, .slice A m c] W (jQ 5 W (42+m) ((dL o n a).map B8)):=by
 have t:a.length=m:=h.len;have l:=qj (λV N i=>NY o n p g V (ht.below N ht.pos) i h1 h2 h3 h4 h5 L);unfold jQ at l;have q:(dL o n a).length=42+m:=by
  unfold dL;rw [qK,qK,B7,t];omega
 have s:dL o n a=Uu o n o.plain++a++Uu o n o.plain:=rfl;have F:=B7 o n o.plain;generalize dL o n a=ar at*
 generalize Uu o n o.plain=D at*
 have y:=qj i;have M:=qj h;have P:=qj ht;have B:=qj (l.out W (qZ _ _) i);replace q:=qj q;replace s:=qj s;replace t:=qj t;replace F:=qj F;clear i h ht;go_enter func39,ntmps39
 go_wp2_with fail;refine B.mono ?_;rintro e J ⟨C,c1,rfl,d⟩;have w:=qj d.2;have x:=qj (l.out J d.2 (y.below d.2 y.lt));have z:=qj d.reads;clear B d
 go_wp2_with fail;refine x.mono ?_;rintro e k ⟨E,c2,rfl,f⟩;have j:=qj (w.trans (f.2.mono w.size));have b:=Xe k C A E 21 m 21 c1 c c2 D a D ((z.below f.2).more f.2.size) ((M.below j).more j.size) f.reads uK
 rw [<-s.out,q.out] at b;have v:Below k k (k.alloc (.cells #[.slice C 21 c1, .slice A m c, .slice E 21 c2] 30)):=(qZ _ _).alloc (qx _) _;have r:=qj (j.trans (v.mono j.size));unfold jQ at b;replace b:=qj b;clear x f z v
 go_wp2_with fail;refine b.mono ?_;rintro e O ⟨H,G,rfl,u⟩;have I:=qj (qi u.1 r.size);have K:=qj (r.trans (u.2.mono r.size));clear b u
 go_wp2_with fail;go_ret;exact⟨H,G,rfl,I.out,K.out⟩
def Px (o:Opt) (l:List Rec):Int×qn:=if vM 3 o≠0 then(vM 3 o,[]) else if xu l≠0 then(6,[]) else(0,kQ o l)
theorem h_ (o:Opt) (A:Option Addr) (c B:Nat) (l:List Rec) (W:World) (ht:Tab W) (h:Reads W B 4 A l (ji l)) (p:B<=W.heap.size) (hl:l.length<=1000000000) (hc:l.length<=c) (hm:c<=maxLen) (hd: -9223372036854775808<=o.data/\o.data<=9223372036854775807) (S:xu l=0-> ∀r∈l,Yj r)
  (O:vM 3 o=0->xu l=0->pQ o l/\Sb o (JT o l).length=0):
  Calls prog 20 #[.agg (opA o), .slice A l c] W (Jf W (Px o l)):=by
 obtain⟨R,f⟩: ∃R,R=Px o l:=⟨_,rfl⟩;rw [<-f];unfold Px at f;have q:Hid (Below W W (W.alloc (.cells #[o.blk, .bool o.plain,o.bkt,o.data,o.par,o.chunk] 23))):=(qZ _ _).alloc (qx _) _;have s:Hid (Blk (W.alloc (.cells #[o.blk, .bool o.plain,o.bkt,o.data,o.par,o.chunk] 23)) W 23 #[o.blk, .bool o.plain,o.bkt,o.data,o.par,o.chunk]):=Blk.new _ _ _;have k:=qj (JX 3 o.blk o.bkt o.data o.par o.chunk o.plain (W.alloc (.cells #[o.blk, .bool o.plain,o.bkt,o.data,o.par,o.chunk] 23)) hd);rw [VT 3 o.blk o.bkt o.data o.par o.chunk o.plain] at k;rw [show(⟨o.blk,o.plain,o.bkt,o.data,o.par,o.chunk⟩:Opt)=o from rfl] at k
 have H:=qj h;have u:=qj ht;clear h ht;by_cases h1:vM 3 o=0
 case neg=>
  have HR:Hid (R=(vM 3 o,[])):=by rw [Hid,f,qk h1]
  unfold opA;generalize vM 3 o=E at*
  have Q':(E==0)=false:=by simpa using h1
  have O':(E !=0)=true:=by simpa using h1
  clear f O s S;go_enter func20,ntmps20
  go_wp2_with fail;refine k.mono ?_;rintro e b ⟨rfl,j⟩;have d:=qj (q.trans (j.mono q.size));clear k j
  go_wp2_with fail
  go_ret2;unfold Jf;rw [HR.out];exact⟨none,0,rfl,qP _ _ _ _,d.out⟩
 rw [qJ (by simpa using h1)] at f
 obtain⟨Q,k1,k2,k3,k4,k5,k6,k7,k8,k9,k10⟩:=Is h1;by_cases h2:xu l=0
 focus
  rw [qJ (by simpa using h2)] at f
  have N9:=qj (S h2);clear S;obtain⟨N6,G⟩:=O h1 h2;have m:=qj (λV ht h p=>DC o A c B l V ht h p hc hm N9 Q h2 N6);have I':kQ o l=dL o (JT o l).length (R_ o.data.toNat o.par.toNat o.chunk.toNat (JT o l)):=rfl;rw [I'] at f;unfold Sb at G;obtain⟨I,L,M,Y,e2,e3,hv,D⟩:=k_ G;unfold opA at m⊢;rw [h1] at k;unfold Qr at m;generalize JT o l=mb at*
  obtain⟨y,p'⟩: ∃n,n=mb.length:=⟨_,rfl⟩;rw [<-p'] at m D f G hv;have S':=D.n2;have hT:=D.t2;have U:=qj (λV A c ht hr h1 h2=>Iy I L M y _ _ _ _ _ A c mb V D ht hr h1 h2);rw [<-Y,<-e2,<-e3] at U;rw [Y,e2,e3,show((I:Nat):Int).toNat=I from rfl,show((L:Nat):Int).toNat=L from rfl,show((M:Nat):Int).toNat=M from rfl] at f
  unfold U8 at U;generalize R_ I L M mb=lv at*
  generalize kM I L M y=T at*
  have KA:=qj (λV g A c ht hb h hn=>aE o y 0 g A T c lv V ht hb h uK uK uK uK uK uK hn);unfold jQ h3A at KA;replace p':=qj p';replace f:=qj f;replace Y:=qj Y;replace e2:=qj e2;replace e3:=qj e3;replace hv:=qj hv;replace G:=qj G;have P':=qj D;clear O h1 h2 Q k1 k2 k3 k4 k5 k6 k7 k8 k9 k10 N6 I' D;go_enter func20,ntmps20
  go_wp2_with fail;generalize W.alloc (.cells #[o.blk, .bool o.plain,o.bkt,o.data,o.par,o.chunk] 23)=w0 at*
  refine k.mono ?_;rintro e b ⟨rfl,j⟩;have d:=qj (q.trans (j.mono q.size));have a:=qj (s.below j s.lt);have N:=qj (m.out b (u.below d u.pos) (H.below (d.mono p)) (qv p d.size))
 rotate_left
 focus
  have HR:Hid (R=(6,[])):=by rw [Hid,f,qk h2]
  have m:=qj (λV h p=>U4 o A c B l V h p hl Q h2);unfold opA at m⊢;rw [h1] at k;clear f O S h1 h2 Q k1 k2 k3 k4 k5 k6 k7 k8 k9 k10;go_enter func20,ntmps20
  go_wp2_with fail;generalize W.alloc (.cells #[o.blk, .bool o.plain,o.bkt,o.data,o.par,o.chunk] 23)=w0 at*
  refine k.mono ?_;rintro e b ⟨rfl,j⟩;have d:=qj (q.trans (j.mono q.size));have a:=s.below j s.lt;have N:=qj (m.out b (H.below (d.mono p)) (qv p d.size))
 rotate_left
 all_goals
  have Z:b.cell? W.heap.size=some (o.blk:Value):=a.cell 0;have X:b.cell? ⟨W,1,none⟩=some (.bool o.plain):=a.cell 1;have P:b.cell? ⟨W,2,none⟩=some (o.bkt:Value):=a.cell 2;have C:b.cell? ⟨W,3,none⟩=some (o.data:Value):=a.cell 3;have w:b.cell? ⟨W,4,none⟩=some (o.par:Value):=a.cell 4;have x:b.cell? ⟨W,5,none⟩=some (o.chunk:Value):=a.cell 5
 ·clear k j m s q
  go_wp2_with fail;refine N.mono ?_;rintro e J ⟨A2,c2,rfl,v⟩;have F:=qj (d.trans (v.2.mono d.size));have z:=qj (a.below v.2 a.lt);have J':=qj (U.out J A2 c2 (u.below F u.pos) v.reads (jC v.1).1 (jC v.1).2);clear N v Z X P C w x U a d;have C:J.cell? ⟨W,3,none⟩=some (o.data:Value):=z.cell 3;have w:J.cell? ⟨W,4,none⟩=some (o.par:Value):=z.cell 4;have x:J.cell? ⟨W,5,none⟩=some (o.chunk:Value):=z.cell 5
  go_wp2_with fail;refine J'.mono ?_;rintro e i ⟨A3,c3,rfl,d'⟩;have u':=qj (F.trans (d'.2.mono F.size));have t:=z.below d'.2 z.lt;have z':=qj d'.reads;clear J' d' C w x F;have Z:i.cell? W.heap.size=some (o.blk:Value):=t.cell 0;have X:i.cell? ⟨W,1,none⟩=some (.bool o.plain):=t.cell 1;have P:i.cell? ⟨W,2,none⟩=some (o.bkt:Value):=t.cell 2;have C:i.cell? ⟨W,3,none⟩=some (o.data:Value):=t.cell 3;have w:i.cell? ⟨W,4,none⟩=some (o.par:Value):=t.cell 4;have x:i.cell? ⟨W,5,none⟩=some (o.chunk:Value):=t.cell 5;have iL:Below i i (i.alloc (.cells #[o.blk, .bool o.plain,o.bkt,o.data,o.par,o.chunk,y, .int .u8 0] 76)):=(qZ _ _).alloc (qx _) _;have K:=qj (u'.trans (iL.mono u'.size));have G':=qj (KA.out _ i A3 c3 (u.below K u.pos) (Blk.new i 76 #[o.blk, .bool o.plain,o.bkt,o.data,o.par,o.chunk,y, .int .u8 0]) ((z'.below iL).more iL.size) uK)
  clear iL z' t z KA
  go_wp2_with fail;refine G'.mono ?_;rintro e w5 ⟨A5,c5,rfl,m'⟩;have OX:=qj (K.trans (m'.2.mono K.size));have M':=qj (qi m'.1 (show W.heap.size<=_ from K.size))
  clear G' m' K u';have N':Hid ((dL o y lv).length=42+T):=by
   have:=M'.out.1;rw [zH] at this;rw [Hid];omega
  go_wp2_with fail
  go_ret2;unfold Jf;rw [f.out];dsimp only;rw [N'.out];exact⟨A5,c5,rfl,M'.out,OX.out⟩
 ·clear k j m a s q
  go_wp2_with fail;refine N.mono ?_;rintro e J ⟨rfl,D'⟩;have F:=qj (d.trans (D'.mono d.size));clear N D' d Z X P C w x
  go_wp2_with fail
  go_ret2;unfold Jf;rw [HR.out];exact⟨none,0,rfl,qP _ _ _ _,F.out⟩
def Pv (v:Int) (o:Opt) (l:List Rec):Int×qn:=if v=1 then Pz o l else if v=2 then Pj o l else if v=3 then Px o l else(4,[])
theorem U5 (v:Int) (o:Opt) (A:q') (c B:Nat) (l:List Rec) (W:World) (ht:Tab W) (I:0<B) (h:Reads W B 4 A l (ji l)) (H:B<=W.heap.size) (y:l.length<=1000000000) (x:l.length<=c) (w:c<=maxLen) (s: -9223372036854775808<=o.data/\o.data<=9223372036854775807) (f:xu l=0-> ∀r∈l,Yj r)
  (q:v=1->vM 1 o=0->xu l=0->rI o l) (m:v=2->vM 2 o=0->xu l=0->pQ o l/\(JT o l).length<=999999000)
  (p:v=3->vM 3 o=0->xu l=0->pQ o l/\Sb o (JT o l).length=0):
  Calls prog 10 #[v, .agg (opA o), .slice A l c] W (Jf W (Pv v o l)):=by
 have a:Hid (Below W W (W.alloc (.cells #[o.blk, .bool o.plain,o.bkt,o.data,o.par,o.chunk] 23))):=z8 _;have d:=ht.below a ht.pos;have g:=h.below (a.mono H);have u:B<=(W.alloc (.cells #[o.blk, .bool o.plain,o.bkt,o.data,o.par,o.chunk] 23)).heap.size:=qv H a.size;by_cases C:v=1
 ·subst C;have K:=rl o A c B l (W.alloc (.cells #[o.blk, .bool o.plain,o.bkt,o.data,o.par,o.chunk] 23)) d I g u y x w s f (q rfl);rw [show Pv 1 o l=Pz o l from rfl];unfold opA Jf at K⊢;generalize Pz o l=R at*;obtain⟨E,bs⟩:=R;dsimp only at K⊢;generalize l.length=n at*;replace K:=qj K;clear q m p g h d ht f;go_in;go_wp2_with fail;generalize W.alloc (.cells #[o.blk, .bool o.plain,o.bkt,o.data,o.par,o.chunk] 23)=D at*;refine K.mono ?_;rintro e F ⟨j,c1,rfl,b⟩;have k:=qj (qi b.1 a.size);have i:=qj (a.trans (b.2.mono a.size));clear b;go_wp2;go_ret2;exact⟨j,c1,rfl,k,i⟩
 have J:(v==1)=false:=by simpa using C
 by_cases z:v=2
 ·subst z;have K:=rL o A c B l (W.alloc (.cells #[o.blk, .bool o.plain,o.bkt,o.data,o.par,o.chunk] 23)) d g u y x w s f (m rfl);rw [show Pv 2 o l=Pj o l from rfl];unfold opA Jf at K⊢;generalize Pj o l=R at*;obtain⟨E,bs⟩:=R;dsimp only at K⊢;generalize l.length=n at*;replace K:=qj K;clear q m p g h d ht f;go_in;go_wp2_with fail;generalize W.alloc (.cells #[o.blk, .bool o.plain,o.bkt,o.data,o.par,o.chunk] 23)=D at*;refine K.mono ?_;rintro e F ⟨j,c1,rfl,b⟩;have k:=qj (qi b.1 a.size);have i:=qj (a.trans (b.2.mono a.size));clear b;go_wp2;go_ret2;exact⟨j,c1,rfl,k,i⟩
 have M:(v==2)=false:=by simpa using z
 by_cases t:v=3
 ·subst t;have K:=h_ o A c B l (W.alloc (.cells #[o.blk, .bool o.plain,o.bkt,o.data,o.par,o.chunk] 23)) d g u y x w s f (p rfl);rw [show Pv 3 o l=Px o l from rfl];unfold opA Jf at K⊢;generalize Px o l=R at*;obtain⟨E,bs⟩:=R;dsimp only at K⊢;generalize l.length=n at*;replace K:=qj K;clear q m p g h d ht f;go_in;go_wp2_with fail;generalize W.alloc (.cells #[o.blk, .bool o.plain,o.bkt,o.data,o.par,o.chunk] 23)=D at*;refine K.mono ?_;rintro e F ⟨j,c1,rfl,b⟩;have k:=qj (qi b.1 a.size);have i:=qj (a.trans (b.2.mono a.size));clear b;go_wp2;go_ret2;exact⟨j,c1,rfl,k,i⟩
 have L:(v==3)=false:=by simpa using t
 have G:Pv v o l=(4,[]):=by unfold Pv;rw [qJ C,qJ z,qJ t]
 rw [G];unfold opA Jf;generalize l.length=n at*;clear q m p g h d ht f G;go_wp2;go_ret2;exact⟨none,0,rfl,qP _ _ _ _,a⟩
theorem Gu (A f:q') (n g c a B h:Nat) (b d:qn) (w:World) (h1:Reads w B 1 A n (b.map B8)) (h2:Reads w h 1 f g (d.map B8)):
  Calls prog 25 #[.slice A n c, .slice f g a] w λe w'=>e= .returned (.bool (decide (b=d)))/\w=w':=by
 have j:=Kf (P:=prog) (w:=w) (c:=c) 30 9 5 qu xS ju h1;have i:=Kf (P:=prog) (w:=w) (c:=a) 30 9 5 qu xS ju h2;go_wp2;go_ret;exact⟨j7 (by rw [yx,yp,jo]),rfl⟩
def Zl (v n a b:Int) (c:Bool):Array Value:= #[v,n,a,b,c]
theorem Py:(prog.info? 48).map (·.size)=some 5:=AL
theorem U6 (v n a b:Int) (c:Bool):(Zl v n a b c).all (·.oneCell')=true:=by simp [Zl,Value.oneCell']
theorem NK (A:q') (n c:Nat) (b:qn) (v:Int) (o:Opt) (l:List Rec) (m j:Nat) (W:World) (ht:Tab W) (h:Reads W W 1 A n (b.map B8)) (U:n<=c) (R:c<=maxLen) (hn:n<=100000000) (hu:LR\/gp b=true)
  (hE:QW b=0) (hU:xX b=⟨v,o,l,m,j⟩) (hp:Pv v o l=(0,b)) (hl:l.length<=20000) (hd: -9223372036854775808<=o.data/\o.data<=9223372036854775807) (z': ∀r∈l,Yj r)
  (u':v=1->vM 1 o=0->xu l=0->rI o l) (m':v=2->vM 2 o=0->xu l=0->pQ o l/\(JT o l).length<=999999000)
  (p':v=3->vM 3 o=0->xu l=0->pQ o l/\Sb o (JT o l).length=0):
  Calls prog 17 #[.slice A n c] W λe a=>e= .returned (.tuple #[.agg (Zl v (l.length:Nat) m j true),()])/\Below W W a:=by
 have w:Hid (Below W W (W.alloc (.cells #[(),(),(),(),false] 48))):=z8 _;have G:Hid (Blk (W.alloc (.cells #[(),(),(),(),false] 48)) W 48 (Zl 0 0 0 0 false)):=Blk.new _ _ _;have D:=GJ A n c b (W.alloc (.cells #[(),(),(),(),false] 48)) (ht.below w ht.pos) ((h.below w).more w.size) U R hn hu;have z:=qj (λV A c B ht N' h S U R=>U5 v o A c B l V ht N' h S uK U R hd (λ_=>z') u' m' p');rw [hp] at z;unfold Jf opA at z;dsimp only at z;unfold sK at D;rw [hE,hU] at D;dsimp only at D;have HR:=qj h;have Q:=qj ht;have O':=qj h.len;have P':=hl;clear h ht hE hU hp u' m' p' z';generalize N6:W.alloc (.cells #[(),(),(),(),false] 48)=q at*;have I':Hid (Calls prog 23 #[.slice A n c] q λe w'=> ∃g s d c1,e= .returned (.tuple #[.pointer (some ⟨g,0,none⟩),()])/\d=l.length/\q.heap.size<=g/\Blk w' g 58 (unA v (d:Nat) m j false o (.slice s d c1))/\w'.ownsRow q 45 4 (.slice s d c1) d (ji l)/\Below q q w'):=qj (D.mono (by
  rintro e w' ⟨S,⟨h0,_⟩|⟨_,g,A,n,c,he,h1,h2,h3,h4⟩⟩
  ·exact absurd rfl h0
  ·exact⟨g,A,n,c,he,h1,h2,h3,h4,S⟩))
 subst N6;clear D;go_in;go_wp2_with fail;generalize W.alloc (.cells #[(),(),(),(),false] 48)=q at*;refine I'.mono ?_;rintro e i ⟨g,s,d,c1,rfl,x,O,X,E,M⟩;have t:=qj (w.trans (M.mono w.size));have P:=qj (G.below M G.lt);have u:=qj X;have M':=qj E;have iL:Hid (W.heap.size<q.heap.size):=G.lt;have OX:=qj O;have N:=jC E;have J':Hid (g≠W.heap.size):=by have h1:=iL.out;have h2:=O;rw [Hid];omega
 unfold unA at u;have K:Hid (∀a,Below i i a->a.cell? g=some (v:Value)/\a.cell? ⟨g,5,none⟩=some (o.blk:Value)/\a.cell? ⟨g,6,none⟩=some (.bool o.plain)/\a.cell? ⟨g,7,none⟩=some (o.bkt:Value)/\a.cell? ⟨g,8,none⟩=some (o.data:Value)/\a.cell? ⟨g,9,none⟩=some (o.par:Value)/\a.cell? ⟨g,10,none⟩=some (o.chunk:Value)/\a.cell? ⟨g,11,none⟩=some (.slice s d c1)):=λa hW=>by
  have Z:=u.below hW u.lt;exact⟨Z.cell 0,Z.cell 5,Z.cell 6,Z.cell 7,Z.cell 8,Z.cell 9,Z.cell 10,Z.cell 11⟩
 have G':Below i i i.drew:=(qZ _ _).drew;have y:=z i.drew s c1 i.drew.heap.size (Q.below (t.trans (G'.mono t.size)) Q.pos) (qB Q.pos t.size) (by rw [<-x];exact Reads.zY E) (qx _) (by rw [<-x];exact N.1) N.2;rw [<-x] at y;replace y:=qj y;replace x:=qj x;clear X E M O G' N;go_wp2_with fail;refine zv 19 (λa=>a.cell? g=some (v:Value)/\a.cell? ⟨g,5,none⟩=some (o.blk:Value)/\a.cell? ⟨g,6,none⟩=some (.bool o.plain)/\a.cell? ⟨g,7,none⟩=some (o.bkt:Value)/\a.cell? ⟨g,8,none⟩=some (o.data:Value)/\a.cell? ⟨g,9,none⟩=some (o.par:Value)/\a.cell? ⟨g,10,none⟩=some (o.chunk:Value)/\a.cell? ⟨g,11,none⟩=some (.slice s d c1)) AL (K _ (qZ _ _).drew) (λY=> ?_);refine zq [0,1,2,3,4,5] (a':= ?_) ?_;refine zq [6,7,8,9,10,11] (a':= ?_) ?_;refine zq [12] (a':= ?_) ?_;refine vf 13 y ?_;rintro e f ⟨A2,c2,rfl,I⟩;refine⟨_,rfl,((K _ ((qZ _ i).drew.trans I.2))),λY=> ?_⟩;refine zq [14,15,16,17,18] (a':= ?_) ?_;refine zV AL ?_ _;have H:Below i i f:=(qZ _ i).drew.trans I.2;have F:=qj (t.trans (H.mono t.size));have D':=qj (P.below H P.lt);have J:=qj (u.below H u.lt);have L:=qj (Gu A2 A b n c2 c f W b b f I.reads (HR.below F));rw [qw (rfl:b=b)] at L;have q4:f.cell? ⟨g,4,none⟩=some (.bool false):=J.cell 4;have r4:=J.frozen 4;clear I H K Y;go_wp2_with fail;refine Ω L ?_;have C:Hid (Blk (f.setCell ⟨g,4,none⟩ true) g 58 #[v,d,m,j,true,o.blk, .bool o.plain,o.bkt,o.data,o.par,o.chunk, .slice s d c1]):=J.zh 4 true;have T:qE [g] f (f.setCell ⟨g,4,none⟩ true):=(qE.refl [g] f).zh (p:=⟨g,4,none⟩) (qy.2 rfl) _;have d':=qj (T.blk D' (by simpa using λe=>J'.out e.symm));have N9:=qj (F.trans (T.below (λk hk=>by rw [qy.1 hk];exact zr (qB iL OX)) F.size));have s0:(f.setCell ⟨g,4,none⟩ true).cell? g=some (v:Value):=C.cell 0;have s1:(f.setCell ⟨g,4,none⟩ true).cell? ⟨g,1,none⟩=some (d:Value):=C.cell 1;have s2:(f.setCell ⟨g,4,none⟩ true).cell? ⟨g,2,none⟩=some (m:Value):=C.cell 2;have s3:(f.setCell ⟨g,4,none⟩ true).cell? ⟨g,3,none⟩=some (j:Value):=C.cell 3;have s4:(f.setCell ⟨g,4,none⟩ true).cell? ⟨g,4,none⟩=some (.bool true):=C.cell 4;clear T;go_wp2_with (first|(refine qC rfl 48 _ _ rfl W (Zl v (d:Int) m j true) rfl rfl 48 (Zl 0 0 0 0 false) d'.out Py rfl (U6 _ _ _ _ _) ?_));refine qW (zN rfl _ _ W (Zl v (d:Int) m j true) () rfl rfl (qN _ W 48 _ (Zl v (d:Int) m j true) (0,0) _ (d'.row _) underlying48 rfl Py)) rfl ?_;rw [x.out];exact⟨rfl,zu N9 (qx _) _⟩
end
section
variable {l:List Rec}{o:Opt}
def xw:List Rec:=[⟨5,1,[100,98],[100,105,115,107,32,102,117,108,108]⟩,⟨3,0,[],[100,105,115,107,32,111,107]⟩]
def uY:Opt:=⟨64,false,0,0,0,0⟩
def Um:Opt:=⟨64,false,2,0,0,0⟩
def Uy:Opt:=⟨64,false,2,2,1,16⟩
def sqB (l:List (Nat×Nat×Nat)):Bool:=l.all (λt=>decide (t.1<256)&&YB (t.1:Int) (t.2.1:Int) (t.2.2:Int))&&decide (l.length<=32768)&&decide ((vA 0 (pz l)).length<=19)&&decide ((vA 0 (LW l)).length<=19)&&decide (Y2 (P1 l)=0)&&decide (Y2 (de l)=0)
theorem ir {l:List (Nat×Nat×Nat)} (h:sqB l=true):Sq l:=by
 unfold sqB at h;simp only [zR,zd,xT] at h;obtain⟨⟨⟨⟨⟨h1,h2⟩,h3⟩,h4⟩,h5⟩,h6⟩:=h;exact⟨λt ht=>h1 t ht,h2,h3,h4,h5,h6⟩
def sU:List Nat->List Rec->Bool
 |[],_=>true
 |n::c,l=>decide (n<=l.length)&&decide ((Zb true (l.take n)).length<=32768)&&sqB (P9 (Zb true (l.take n)))&&sU c (l.drop n)
theorem sd: ∀{c:List Nat} {l:List Rec},sU c l=true->Es false c l
 |[],_,_=>trivial
 |n::c,l,h=>by
  unfold sU at h;simp only [zR,zd] at h;exact⟨h.1.1.1,h.1.1.2,λ_=>ir h.1.2,sd h.2⟩
def sD:List Nat->List Rec->Bool
 |[],_=>true
 |n::c,l=>decide (n<=l.length)&&decide ((Zb false (l.take n)).length<=32768)&&sqB (P9 (Zb false (l.take n)))&&sD c (l.drop n)
theorem sf: ∀{c:List Nat} {l:List Rec},sD c l=true->Gp false c l
 |[],_,_=>trivial
 |n::c,l,h=>by
  unfold sD at h;simp only [zR,zd] at h;exact⟨h.1.1.1,h.1.1.2,λ_=>ir h.1.2,sf h.2⟩
def oR (o:Opt) (l:List Rec):Bool:=
 sD (ZK o l) l&&decide ((Zb false l).length<=1000000000)&&decide ((ZK o l).length<=20000)&&(ZK o l).all (λx=>decide (x<=20000))&&Gf (P0 l).1&&(P0 l).2.all (λx=>dy l (-1) (x.map λn:Nat=>(n:Int))&&decide (1<=x.length))
  &&decide ((P0 l).2.length<=50000)&&decide ((YT o l).length<=10000000)&&decide ((P5 l).length<=10000000)
theorem r8 (c:o.plain=false) (h:oR o l=true):pQ o l:=by
 unfold oR at h;simp only [zR,zd,xT] at h;obtain⟨⟨⟨⟨⟨⟨⟨⟨h1,h2⟩,h3⟩,h4⟩,h5⟩,h6⟩,h7⟩,h8⟩,a⟩:=h;exact⟨by rw [c];exact sf h1,h2,h3,h4,h5,λx b=>h6 x b,h7,h8,a⟩
theorem l9:rI uY xw:=by
 have h:(sU (Xl uY xw) xw&&decide ((Zb true xw).length<=1000000000)&&decide ((Xl uY xw).length<=20000))=true:=by decide+kernel
 simp only [zR,zd] at h;exact⟨sd h.1.1,h.1.2,h.2⟩
theorem l_:pQ Um xw:=r8 rfl (by decide+kernel)
theorem Lq:pQ Uy xw:=r8 rfl (by decide+kernel)
theorem LH:vM 1 uY=0:=by decide+kernel
theorem Lb:vM 2 Um=0:=by decide+kernel
theorem LB:vM 3 Uy=0:=by decide+kernel
theorem IS:xu xw=0:=by decide+kernel
theorem Lz:(JT Um xw).length<=999999000:=by decide+kernel
theorem Lc:Sb Uy (JT Uy xw).length=0:=by decide+kernel
theorem iR: ∀r∈xw,Yj r:=by
 intro r a;simp only [xw,qL,xj,Ze] at a;rcases a with rfl|rfl<;>exact⟨FV,FV,FV,FV⟩
def bn:Nat->qn
 |1=>pG uY xw
 |2=>ky Um xw
 |_=>kQ Uy xw
theorem un1:QW (pG uY xw)=0/\(xX (pG uY xw)).v=1/\(xX (pG uY xw)).o=uY/\(xX (pG uY xw)).l=xw/\(pG uY xw).length<=100000:=by decide+kernel
theorem un2:QW (ky Um xw)=0/\(xX (ky Um xw)).v=2/\(xX (ky Um xw)).o=Um/\(xX (ky Um xw)).l=xw/\(ky Um xw).length<=100000:=by decide+kernel
theorem un3:QW (kQ Uy xw)=0/\(xX (kQ Uy xw)).v=3/\(xX (kQ Uy xw)).o=Uy/\(xX (kQ Uy xw)).l=xw/\(kQ Uy xw).length<=100000:=by decide+kernel
theorem qqR:gp (pG uY xw)=true:=by decide+kernel
theorem qqt:gp (ky Um xw)=true:=by decide+kernel
theorem qqT:gp (kQ Uy xw)=true:=by decide+kernel
theorem pk1:Pv 1 uY xw=(0,pG uY xw):=by
 show Pz uY xw=_;unfold Pz;rw [qJ (by rw [LH];decide),qJ (by rw [IS];decide)]
theorem pk2:Pv 2 Um xw=(0,ky Um xw):=by
 show Pj Um xw=_;unfold Pj;rw [qJ (by rw [Lb];decide),qJ (by rw [IS];decide)]
theorem pk3:Pv 3 Uy xw=(0,kQ Uy xw):=by
 show Px Uy xw=_;unfold Px;rw [qJ (by rw [LB];decide),qJ (by rw [IS];decide)]
end
section
open Go.RowKit
variable {l:List Rec}{o:Opt}
def GU (v:Int) (a:Array Value):Prop:=
 ∃(bs:qn) (f b:Nat),(∀(V:World) (A:q') (c B:Nat),Tab V->0<B->Reads V B 4 A 2 (ji xw)->B<=V.heap.size->2<=c->c<=maxLen->Calls prog 10 #[v, .agg a, .slice A 2 c] V (Jf V (0,bs)))/\
  (∀(V:World) (A:q') (c:Nat),Tab V->Reads V V 1 A bs (bs.map B8)->bs.length<=c->c<=maxLen->Calls prog 17 #[.slice A bs c] V λe d=>e= .returned (.tuple #[.agg (Zl v 2 f b true),()])/\Below V V d)
theorem T3 {v:Int} {bs:qn} (d: -9223372036854775808<=o.data/\o.data<=9223372036854775807) (g:Pv v o xw=(0,bs)) (m:QW bs=0) (h1:(xX bs).v=v) (h2:(xX bs).o=o) (h3:(xX bs).l=xw) (u:bs.length<=100000) (j:gp bs=true) (i:v=1->vM 1 o=0->xu xw=0->rI o xw) (e:v=2->vM 2 o=0->xu xw=0->pQ o xw/\(JT o xw).length<=999999000) (f:v=3->vM 3 o=0->xu xw=0->pQ o xw/\Sb o (JT o xw).length=0):GU v (opA o):=by
 have k:xX bs=⟨v,o,xw,(xX bs).blocks,(xX bs).bad⟩:=by
  generalize xX bs=U at*;obtain⟨r,t,s,w,q⟩:=U;dsimp only at h1 h2 h3;rw [h1,h2,h3]
 refine⟨bs,(xX bs).blocks,(xX bs).bad,λV A c B ht p h n b a=> ?_,λV A c ht h b a=> ?_⟩
 ·have K:=U5 v o A c B xw V ht p h n FV b a d (λ_=>iR) i e f;rw [g] at K;exact K
 ·exact NK A bs c bs v o xw _ _ V ht h b a uK (.inr j) m k g FV d iR i e f
theorem LC:GU 1 (opA uY):=T3 FV pk1 un1.1 un1.2.1 un1.2.2.1 un1.2.2.2.1 un1.2.2.2.2 qqR (λ_ _ _=>l9) (λh=>absurd h FV) (λh=>absurd h FV)
theorem LA:GU 2 (opA Um):=T3 FV pk2 un2.1 un2.2.1 un2.2.2.1 un2.2.2.2.1 un2.2.2.2.2 qqt (λh=>absurd h FV) (λ_ _ _=>⟨l_,Lz⟩) (λh=>absurd h FV)
theorem Le:GU 3 (opA Uy):=T3 FV pk3 un3.1 un3.2.1 un3.2.2.1 un3.2.2.2.1 un3.2.2.2.2 qqT (λh=>absurd h FV) (λh=>absurd h FV) (λ_ _ _=>⟨Lq,Lc⟩)
theorem T4 (w:World) (a:List Value) (t:TypeId) (size n:Nat) (h:a.length=n*size):Reads (w.alloc (.cells a.toArray t)) (w.heap.size+1) size w n a:=by
 refine⟨h,λ_=>⟨_,rfl,ze _,λj u b=> ?_⟩⟩;have e:(w.heap.size:Addr).add j=⟨w,j,none⟩:=by unfold Addr.add;split<;>simp_all
 rw [e,(Blk.new w t a.toArray).cell j];simpa using b
theorem r9 (w:World) (ht:Tab w) (Y:GU 1 (opA uY)) (a2:GU 2 (opA Um)) (Z:GU 3 (opA Uy)):Calls prog 7 #[] w λe w'=>e= .returned (.bool true)/\Below w w w':=by
 have N:Below w w (w.alloc (.cells #[.int .u64 5, .int .u8 1, .string ⟨#[100,98]⟩, .string ⟨#[100,105,115,107,32,102,117,108,108]⟩, .int .u64 3, .int .u8 0, .string ⟨#[]⟩, .string ⟨#[100,105,115,107,32,111,107]⟩] 45)):=(qZ _ _).alloc (qx _) _;have R:(w.alloc (.cells #[.int .u64 5, .int .u8 1, .string ⟨#[100,98]⟩, .string ⟨#[100,105,115,107,32,102,117,108,108]⟩, .int .u64 3, .int .u8 0, .string ⟨#[]⟩, .string ⟨#[100,105,115,107,32,111,107]⟩] 45)).heap.size=w.heap.size+1:=s8;have K:Below (w.alloc (.cells #[.int .u64 5, .int .u8 1, .string ⟨#[100,98]⟩, .string ⟨#[100,105,115,107,32,102,117,108,108]⟩, .int .u64 3, .int .u8 0, .string ⟨#[]⟩, .string ⟨#[100,105,115,107,32,111,107]⟩] 45)).heap.size (w.alloc (.cells #[.int .u64 5, .int .u8 1, .string ⟨#[100,98]⟩, .string ⟨#[100,105,115,107,32,102,117,108,108]⟩, .int .u64 3, .int .u8 0, .string ⟨#[]⟩, .string ⟨#[100,105,115,107,32,111,107]⟩] 45)) ((w.alloc (.cells #[.int .u64 5, .int .u8 1, .string ⟨#[100,98]⟩, .string ⟨#[100,105,115,107,32,102,117,108,108]⟩, .int .u64 3, .int .u8 0, .string ⟨#[]⟩, .string ⟨#[100,105,115,107,32,111,107]⟩] 45)).alloc (.cells #[.int .i64 64, .bool false,(),(),(),(), .int .i64 64, .bool false, .int .i64 2,(),(),(), .int .i64 64, .bool false, .int .i64 2, .int .i64 2, .int .i64 1, .int .i64 16] 23)):=(qZ _ _).alloc (qx _) _;have P:Reads (w.alloc (.cells #[.int .u64 5, .int .u8 1, .string ⟨#[100,98]⟩, .string ⟨#[100,105,115,107,32,102,117,108,108]⟩, .int .u64 3, .int .u8 0, .string ⟨#[]⟩, .string ⟨#[100,105,115,107,32,111,107]⟩] 45)) (w.heap.size+1) 4 w 2 (ji xw):=T4 w (ji xw) _ 4 2 rfl;rw [<-R] at P;have L:=qj ((P.below K).more K.size);have t:Hid (Blk ((w.alloc (.cells #[.int .u64 5, .int .u8 1, .string ⟨#[100,98]⟩, .string ⟨#[100,105,115,107,32,102,117,108,108]⟩, .int .u64 3, .int .u8 0, .string ⟨#[]⟩, .string ⟨#[100,105,115,107,32,111,107]⟩] 45)).alloc (.cells #[.int .i64 64, .bool false,(),(),(),(), .int .i64 64, .bool false, .int .i64 2,(),(),(), .int .i64 64, .bool false, .int .i64 2, .int .i64 2, .int .i64 1, .int .i64 16] 23)) (w.heap.size+1) 23 #[.int .i64 64, .bool false,(),(),(),(), .int .i64 64, .bool false, .int .i64 2,(),(),(), .int .i64 64, .bool false, .int .i64 2, .int .i64 2, .int .i64 1, .int .i64 16]):=by rw [Hid,<-R];exact Blk.new _ _ _
 have I:=qj (N.trans (K.mono N.size));have p:=qj (ht.below I ht.pos);have S:Hid (0<((w.alloc (.cells #[.int .u64 5, .int .u8 1, .string ⟨#[100,98]⟩, .string ⟨#[100,105,115,107,32,102,117,108,108]⟩, .int .u64 3, .int .u8 0, .string ⟨#[]⟩, .string ⟨#[100,105,115,107,32,111,107]⟩] 45)).alloc (.cells #[.int .i64 64, .bool false,(),(),(),(), .int .i64 64, .bool false, .int .i64 2,(),(),(), .int .i64 64, .bool false, .int .i64 2, .int .i64 2, .int .i64 1, .int .i64 16] 23)).heap.size):=qB ht.pos I.size;clear ht N R K P;go_enter func7,ntmps7
 go_wp2_with fail;generalize (w.alloc (.cells #[.int .u64 5, .int .u8 1, .string ⟨#[100,98]⟩, .string ⟨#[100,105,115,107,32,102,117,108,108]⟩, .int .u64 3, .int .u8 0, .string ⟨#[]⟩, .string ⟨#[100,105,115,107,32,111,107]⟩] 45)).alloc (.cells #[.int .i64 64, .bool false,(),(),(),(), .int .i64 64, .bool false, .int .i64 2,(),(),(), .int .i64 64, .bool false, .int .i64 2, .int .i64 2, .int .i64 1, .int .i64 16] 23)=C at*
 generalize d':w.heap.size+1=g at*
 generalize Q:w.heap.size=O at*
 go_loopw [3] (λM wr=> ∃v:Nat,M=(v:Value)/\(1<=v/\v<=4)/\Hid (Below C C wr)) (λM _=>4-(intOf M).toNat)
 case atStart=>exact⟨1,rfl,⟨uK,uK⟩,qZ _ _⟩
 case round=>
  obtain⟨v,rfl,X,f⟩:=hrel;have W:v=1\/v=2\/v=3\/v=4:=uK;clear X;rcases W with rfl|rfl|rfl|rfl
  focus
   rw [show((1:Nat):Int)=1 from rfl]
   obtain⟨bs,c,b,h,j⟩:=Y;unfold Jf at h;dsimp only at h;obtain⟨n,q⟩: ∃n,n=bs.length:=⟨_,rfl⟩;rw [<-q] at h j;have d:=h wr O 2 C (p.below f p.pos) S (L.below f) f.size FV FV;have HOr:=t.below f t.lt;unfold opA at d;dsimp only [uY] at d;replace d:=qj d;replace j:=qj j;replace q:=qj q;have F:wr.cell? g=some (.int .i64 64):=HOr.cell 0;have A:wr.cell? ⟨g,1,none⟩=some (.bool false):=HOr.cell 1;have D:wr.cell? ⟨g,2,none⟩=some (.int .i64 0):=HOr.cell 2;have B:wr.cell? ⟨g,3,none⟩=some (.int .i64 0):=HOr.cell 3;have G:wr.cell? ⟨g,4,none⟩=some (.int .i64 0):=HOr.cell 4;have H:wr.cell? ⟨g,5,none⟩=some (.int .i64 0):=HOr.cell 5
  rotate_left
  focus
   rw [show((2:Nat):Int)=2 from rfl]
   obtain⟨bs,c,b,h,j⟩:=a2;unfold Jf at h;dsimp only at h;obtain⟨n,q⟩: ∃n,n=bs.length:=⟨_,rfl⟩;rw [<-q] at h j;have d:=h wr O 2 C (p.below f p.pos) S (L.below f) f.size FV FV;have HOr:=t.below f t.lt;unfold opA at d;dsimp only [Um] at d;replace d:=qj d;replace j:=qj j;replace q:=qj q;have F:wr.cell? ⟨g,6,none⟩=some (.int .i64 64):=HOr.cell 6;have A:wr.cell? ⟨g,7,none⟩=some (.bool false):=HOr.cell 7;have D:wr.cell? ⟨g,8,none⟩=some (.int .i64 2):=HOr.cell 8;have B:wr.cell? ⟨g,9,none⟩=some (.int .i64 0):=HOr.cell 9;have G:wr.cell? ⟨g,10,none⟩=some (.int .i64 0):=HOr.cell 10;have H:wr.cell? ⟨g,11,none⟩=some (.int .i64 0):=HOr.cell 11
  rotate_left
  focus
   rw [show((3:Nat):Int)=3 from rfl]
   obtain⟨bs,c,b,h,j⟩:=Z;unfold Jf at h;dsimp only at h;obtain⟨n,q⟩: ∃n,n=bs.length:=⟨_,rfl⟩;rw [<-q] at h j;have d:=h wr O 2 C (p.below f p.pos) S (L.below f) f.size FV FV;have HOr:=t.below f t.lt;unfold opA at d;dsimp only [Uy] at d;replace d:=qj d;replace j:=qj j;replace q:=qj q;have F:wr.cell? ⟨g,12,none⟩=some (.int .i64 64):=HOr.cell 12;have A:wr.cell? ⟨g,13,none⟩=some (.bool false):=HOr.cell 13;have D:wr.cell? ⟨g,14,none⟩=some (.int .i64 2):=HOr.cell 14;have B:wr.cell? ⟨g,15,none⟩=some (.int .i64 2):=HOr.cell 15;have G:wr.cell? ⟨g,16,none⟩=some (.int .i64 1):=HOr.cell 16;have H:wr.cell? ⟨g,17,none⟩=some (.int .i64 16):=HOr.cell 17
  rotate_left
  ·rw [show((4:Nat):Int)=4 from rfl]
   go_wp2_with fail;go_ret;have J:=I.trans (f.mono (by rw [<-Q];exact I.size))
   exact⟨rfl,by first|exact J|(rw [Q];exact J)|(rw [<-Q] at J;exact J)⟩
  all_goals
   clear h HOr
   go_wp2_with fail;refine d.mono ?_;rintro e u ⟨z,x,rfl,i⟩;have l:=qj (f.trans (i.2.mono f.size));have m:=j.out u z x (p.below l p.pos) i.reads (jC i.1).1 (jC i.1).2;replace m:=qj m;clear d i j F A D B G H
   go_wp2_with fail;refine m.mono ?_;rintro e a ⟨rfl,r⟩;have k:=qj (l.trans (r.mono l.size));clear m r;have s:Hid (Blk (a.alloc (.cells #[(),(),(),(), .bool false] 48)) a 48 (Zl 0 0 0 0 false)):=Blk.new _ _ _;have E:=qj (k.alloc k.size (.cells #[(),(),(),(), .bool false] 48))
  ·have y:=qj (zu E k.size (Zl 1 2 (c:Int) (b:Int) true));have o:Hid (Blk ((a.alloc (.cells #[(),(),(),(), .bool false] 48)).setRow a (Zl 1 2 (c:Int) (b:Int) true)) a 48 (Zl 1 2 (c:Int) (b:Int) true)):=s.row _;have V:((a.alloc (.cells #[(),(),(),(), .bool false] 48)).setRow a (Zl 1 2 (c:Int) (b:Int) true)).cell? ⟨a,4,none⟩=some (.bool true):=o.cell 4;have T:((a.alloc (.cells #[(),(),(),(), .bool false] 48)).setRow a (Zl 1 2 (c:Int) (b:Int) true)).cell? a.heap.size=some (.int .i64 1):=o.cell 0;have U:((a.alloc (.cells #[(),(),(),(), .bool false] 48)).setRow a (Zl 1 2 (c:Int) (b:Int) true)).cell? ⟨a,1,none⟩=some (.int .i64 2):=o.cell 1;clear o k l
   go_wp2_with (first|(refine qC rfl 48 _ _ rfl a (Zl 1 2 (c:Int) (b:Int) true) rfl rfl 48 (Zl 0 0 0 0 false) s.out Py rfl (U6 _ _ _ _ _) ?_))
   go_roundw
   case rel=>exact⟨2,by first|rfl|simp,uK,y⟩
   case measure=>simp [intOf]
  ·have y:=qj (zu E k.size (Zl 2 2 (c:Int) (b:Int) true));have o:Hid (Blk ((a.alloc (.cells #[(),(),(),(), .bool false] 48)).setRow a (Zl 2 2 (c:Int) (b:Int) true)) a 48 (Zl 2 2 (c:Int) (b:Int) true)):=s.row _;have V:((a.alloc (.cells #[(),(),(),(), .bool false] 48)).setRow a (Zl 2 2 (c:Int) (b:Int) true)).cell? ⟨a,4,none⟩=some (.bool true):=o.cell 4;have T:((a.alloc (.cells #[(),(),(),(), .bool false] 48)).setRow a (Zl 2 2 (c:Int) (b:Int) true)).cell? a.heap.size=some (.int .i64 2):=o.cell 0;have U:((a.alloc (.cells #[(),(),(),(), .bool false] 48)).setRow a (Zl 2 2 (c:Int) (b:Int) true)).cell? ⟨a,1,none⟩=some (.int .i64 2):=o.cell 1;clear o k l
   go_wp2_with (first|(refine qC rfl 48 _ _ rfl a (Zl 2 2 (c:Int) (b:Int) true) rfl rfl 48 (Zl 0 0 0 0 false) s.out Py rfl (U6 _ _ _ _ _) ?_))
   go_roundw
   case rel=>exact⟨3,by first|rfl|simp,uK,y⟩
   case measure=>simp [intOf]
  ·have y:=qj (zu E k.size (Zl 3 2 (c:Int) (b:Int) true));have o:Hid (Blk ((a.alloc (.cells #[(),(),(),(), .bool false] 48)).setRow a (Zl 3 2 (c:Int) (b:Int) true)) a 48 (Zl 3 2 (c:Int) (b:Int) true)):=s.row _;have V:((a.alloc (.cells #[(),(),(),(), .bool false] 48)).setRow a (Zl 3 2 (c:Int) (b:Int) true)).cell? ⟨a,4,none⟩=some (.bool true):=o.cell 4;have T:((a.alloc (.cells #[(),(),(),(), .bool false] 48)).setRow a (Zl 3 2 (c:Int) (b:Int) true)).cell? a.heap.size=some (.int .i64 3):=o.cell 0;have U:((a.alloc (.cells #[(),(),(),(), .bool false] 48)).setRow a (Zl 3 2 (c:Int) (b:Int) true)).cell? ⟨a,1,none⟩=some (.int .i64 2):=o.cell 1;clear o k l
   go_wp2_with (first|(refine qC rfl 48 _ _ rfl a (Zl 3 2 (c:Int) (b:Int) true) rfl rfl 48 (Zl 0 0 0 0 false) s.out Py rfl (U6 _ _ _ _ _) ?_))
   go_roundw
   case rel=>exact⟨4,by first|rfl|simp,uK,y⟩
   case measure=>simp [intOf]
theorem aR (w:World) (ht:Tab w):Calls prog 7 #[] w λe w'=>e= .returned true/\Below w w w':=r9 w ht LC LA Le
theorem Lt (v:Int) (o:Opt) (h:xu l≠0):Pv v o l=(if vM v o=0 then 6 else vM v o,[]):=by
 have key: ∀(E:Int) (x:Int×qn),(if E≠0 then(E,[]) else if xu l≠0 then(6,[]) else x)=(if E=0 then 6 else E,([]:qn)):=λE x=>by
  by_cases a:E=0
  ·rw [qJ (by simpa using a),qk h,qk a]
  ·rw [qk a,qJ a]
 unfold Pv;by_cases d:v=1
 ·subst d;rw [qk rfl];exact key _ _
 rw [qJ d];by_cases b:v=2
 ·subst b;rw [qk rfl];exact key _ _
 rw [qJ b];by_cases c:v=3
 ·subst c;rw [qk rfl];exact key _ _
 rw [qJ c];have e:vM v o=4:=by unfold vM;rw [qk uK]
 rw [e,qJ FV]
theorem L4 (i:Nat) (l:List Rec):(List.replicate (i+1) l).flatten=(List.replicate i l).flatten++l:=by
 induction i with
 |zero=>simp
 |succ i a=>
  rw [List.replicate_succ,xI,a,<-jY];rw [show l++(List.replicate i l).flatten=(List.replicate (i+1) l).flatten by rw [List.replicate_succ,xI]];rw [a]
theorem LO (v b:Int) (p:Bool) (k d q ch:Int) (A:Option Addr) (n c:Nat) (l:List Rec) (M:Nat) (w:World) (hd: -9223372036854775808<=d/\d<=9223372036854775807) (hnc:n<=c) (hcm:c<=maxLen) (hr0:Reads w w.heap.size 4 A n (ji l)/\ ∀r∈l,r.time<18446744073709551616/\r.level<256/\r.src.length<=maxLen/\r.txt.length<=maxLen) (hco:M<65536) (ht:Tab w):
  Calls prog 3 #[v, .agg #[b, .bool p,k,d,q,ch], .slice A n c, .int .u16 (M:Int)] w λe w'=>e= .returned (.bool true)/\Below w.heap.size w w':=by
 have hr:=hr0.1;clear hr0;have hn:l.length=n:=by have:=hr.1;rw [mM] at this;omega
 have O':Hid (Below w.heap.size w (w.alloc (.cells #[b, .bool p,k,d,q,ch] 23))):=(qZ _ _).alloc (qx _) _;have HK0:Hid (Blk (w.alloc (.cells #[b, .bool p,k,d,q,ch] 23)) w.heap.size 23 #[b, .bool p,k,d,q,ch]):=Blk.new _ _ _;have KA:=qj (aR (w.alloc (.cells #[b, .bool p,k,d,q,ch] 23)) (ht.below O' ht.pos));have KF:=qj (λV=>L8 v b k d q ch p V hd);rw [VT v b k d q ch p] at KF;have HT:=qj ht;have HR:=qj hr;obtain⟨F,hF⟩: ∃F,F=vM v ⟨b,p,k,d,q,ch⟩:=⟨_,rfl⟩;have Lt:=λ{l:List Rec} (h:xu l≠0)=>Lt v ⟨b,p,k,d,q,ch⟩ h;rw [<-hF] at KF Lt;have PL:=qj (λ(l:List Rec) (h:xu l≠0)=>Lt h);replace hF:=qj hF;clear ht hr Lt;by_cases hg:40<n
 ·have hg':(40:Int)<(n:Int):=uK
  go_enter func3,ntmps3
  go_wp2_with fail;refine KA.mono ?_;rintro e w1 ⟨rfl,z'⟩;have u':=qj (O'.trans (z'.mono O'.size));clear KA z'
  go_wp2_with fail;go_ret;exact⟨rfl,u'.out⟩
 have hg': ¬(40:Int)<(n:Int):=uK;have KG:=qj (λV (R:Below w.heap.size w V)=>L9 A c w.heap.size 40 200000 l V (by rw [hn];exact HR.below R) uK uK uK)
 rw [hn,show((40:Nat):Int)=40 from rfl,show((200000:Nat):Int)=200000 from rfl,qc hg,Bool.false_or] at KG
 generalize decide (200000<Li 0 l)=gr at*
 obtain⟨i0,hi,P',S',Q'⟩:=qA PH;replace hi:=qj hi;replace P':=qj P';replace S':=qj S';replace Q':=qj Q';have OX: ∀u∈ji l,u.oneCell'=true:=λu hu=>by
  unfold ji at hu;obtain⟨x,hx,hux⟩:=List.mem_flatten.1 hu;obtain⟨t,-,rfl⟩:=jB.1 hx;exact tS t u hux
 replace OX:=qj OX;replace hn:=qj hn;have hwc:IntKind.i64.wrap (M:Int)=(M:Int):=SX;go_enter func3,ntmps3
 go_wp2_with fail;generalize w.alloc (.cells #[b, .bool p,k,d,q,ch] 23)=w0 at*
 refine KA.mono ?_;rintro e w1 ⟨rfl,z'⟩;have u':=qj (O'.trans (z'.mono O'.size));have HK1:=qj (HK0.below z' HK0.lt);have KG1:=qj (KG.out w1 u');clear KA z' KG HK0
 go_wp2_with fail;refine KG1.mono ?_;rintro e G ⟨rfl,hd2⟩;have N':=qj (u'.trans ((hd2.below w1).mono u'.size));have HK:=qj (HK1.below (hd2.below w1) HK1.lt);clear KG1 hd2 u' HK1;cases gr
 case true=>
  go_wp2_with fail;go_ret;exact⟨rfl,N'.out⟩
 go_wp2_with fail;go_loopw [9,10] (λv9 v10 wr=> ∃(i m c9:Nat) (T:Option Addr),v9= .slice T m c9/\v10=(i:Value)/\i<=M+1/\m=i*n/\m<=20040/\Hid (wr.ownsRow G 45 4 (.slice T m c9) m (ji (List.replicate i l).flatten))/\Hid (Below G G wr)) (λ_ v10 _=>M+1-(intOf v10).toNat)
 case atStart=>exact⟨0,0,0,none,rfl,rfl,qp _,s8,qp _,qP _ _ _ _,qZ _ _⟩
 case round=>
  obtain⟨i,m,c9,T,rfl,rfl,hi1,hmi,hm2,S,M'⟩:=hrel;have s:=qj (N'.trans (M'.mono N'.size));have J':=qj (HK.below M' HK.lt);replace hmi:=qj hmi;have hq:(((i:Int)<=(M:Int)/\ ¬(m:Int)<=20000)\/ ¬(i:Int)<=(M:Int))\/((i:Int)<=(M:Int)/\(m:Int)<=20000):=uK;rcases hq with hq|⟨hq1',hq2'⟩
  ·rcases hq with⟨hq1',hq2'⟩|hq1'
   all_goals
    have K:=S;clear S;obtain⟨g,iL⟩: ∃g,g=(List.replicate (i) l).flatten:=⟨_,rfl⟩;rw [<-iL] at K;have m':=jC K.out;have I:g.length=m:=by have:=K.out.1;rw [mM] at this;omega
    have P:=Reads.zY K.out;have f:=Gd T c9 _ g wr (by rw [I];exact P) uK
    have a:=λ(O:xu g≠0) V (R:Below wr.heap.size wr V)=>U5 v ⟨b,p,k,d,q,ch⟩ T c9 wr.heap.size g V (HT.below (s.trans (R.mono s.size)) HT.pos) (qB HT.pos s.size) ((show Reads wr wr.heap.size 4 T g.length (ji g) by rw [I];exact P).below R) R.size uK uK m'.2 hd (λh=>absurd h O) (λ_ _ h=>absurd h O) (λ_ _ h=>absurd h O) (λ_ _ h=>absurd h O)
    rw [I] at f a;unfold opA at a;dsimp only at a;replace iL:=qj iL;by_cases B:xu g=0
    ·rw [B] at f
     replace f:=qj f;clear a P B m' I
     go_wp2_with fail;refine f.mono ?_;rintro e o ⟨rfl,L⟩;have J:=qj (s.trans ((L.below wr.heap.size).mono s.size));clear f L
     go_wp2_with fail;go_ret;exact⟨rfl,J.out⟩
    have a:=a B;rw [oe B] at f;rw [PL.out g B] at a;obtain⟨E,H⟩: ∃E,E=(if F=0 then(6:Int) else F):=⟨_,rfl⟩
    rw [<-H] at a;replace H:=qj H;unfold Jf at a;dsimp only [zF] at a;replace f:=qj f;replace a:=qj a;replace B:=qj B;clear P m' I
    go_wp2_with fail;refine f.mono ?_;rintro e o ⟨rfl,L⟩;have Q:=L.below wr.heap.size;have J:=qj (s.trans (Q.mono s.size));have j:=qj (J'.below Q J'.lt);have N9:=qj (a.out o Q);have z0:o.cell? w.heap.size=some (b:Value):=j.cell 0;have Z:o.cell? ⟨w.heap.size,1,none⟩=some (.bool p):=j.cell 1;have W:o.cell? ⟨w.heap.size,2,none⟩=some (k:Value):=j.cell 2;have z3:o.cell? ⟨w.heap.size,3,none⟩=some (d:Value):=j.cell 3;have X:o.cell? ⟨w.heap.size,4,none⟩=some (q:Value):=j.cell 4;have z5:o.cell? ⟨w.heap.size,5,none⟩=some (ch:Value):=j.cell 5;clear f L a
    go_wp2_with fail;refine N9.mono ?_;rintro e y ⟨AB,cB,rfl,d'⟩;have p':=qj (J.trans (d'.2.mono J.size));have z:=j.below d'.2 j.lt;have N6:=qj (KF.out y);clear N9 d' Q z0 Z W z3 X z5 J j;have z0:y.cell? w.heap.size=some (b:Value):=z.cell 0;have Z:y.cell? ⟨w.heap.size,1,none⟩=some (.bool p):=z.cell 1;have W:y.cell? ⟨w.heap.size,2,none⟩=some (k:Value):=z.cell 2;have z3:y.cell? ⟨w.heap.size,3,none⟩=some (d:Value):=z.cell 3;have X:y.cell? ⟨w.heap.size,4,none⟩=some (q:Value):=z.cell 4;have z5:y.cell? ⟨w.heap.size,5,none⟩=some (ch:Value):=z.cell 5;clear z KF
    go_wp2_with fail;refine N6.mono ?_;rintro e wC ⟨rfl,hC⟩;have G':=qj (p'.trans (hC.mono p'.size));clear N6 hC p' z0 Z W z3 X z5;by_cases D:F=0
    ·obtain rfl:E=6:=by rw [H.out,qk D]
     subst D
     go_wp2_with fail;go_ret;exact⟨rfl,G'.out⟩
    ·have hFz:(F==0)=false:=by simpa using D
     obtain rfl:E=F:=by rw [H.out,qJ D]
     replace D:=qj D
     go_wp2_with fail;go_ret;exact⟨rfl,G'.out⟩
  have hm1:m+n<=maxLen:=SJ;have hm3:(m+n)*48<=140737488355328:=uK;have D':Hid (G.heap.size<=wr.heap.size):=M'.size;have U':=qj (HR.below s);by_cases X':n=0
  focus
   have hnz:((n:Int)==0)=true:=by simp [X']
   have Y':(n:Int)=0:=uK;replace Y':=qj Y';replace X':=qj X'
  rotate_left
  focus
   have hnz:((n:Int)==0)=false:=by simp [X']
   have Y': ¬(n:Int)=0:=uK
  rotate_left
  all_goals
   go_wp2_with (at_builtin;refine qF _ rfl (.tmp 34) (.tmp 35) 24 rfl G 45 i0 (.agg #[.int .u64 0, .int .u8 0, .string "".toUTF8, .string "".toUTF8]) 4 48 QL hi P' S' Q' rfl uK T m c9 _ rfl S w A n c _ rfl U' OX hm1 hm3 D' ?_;intro Y c4 C N I' Z';have U:Below G G C:=zG M' I' S D'.out;replace N:=qj N;replace U:=qj U;clear I' Z')
  focus have s:=qj (N'.trans (U.mono N'.size));have J':=qj (HK.below U HK.lt)
  rotate_left
  rotate_left
  all_goals
   have K:Hid (C.ownsRow G 45 4 (.slice Y (m+n) c4) (m+n) (ji (List.replicate (i+1) l).flatten)):=by rw [Hid,L4,pR];exact N.out
  ·clear N S U' OX D';obtain⟨g,iL⟩: ∃g,g=(List.replicate (i+1) l).flatten:=⟨_,rfl⟩;rw [<-iL] at K;have m':=jC K.out;have I:g.length=(m+n):=by have:=K.out.1;rw [mM] at this;omega
   have P:=Reads.zY K.out;have f:=Gd Y c4 _ g C (by rw [I];exact P) uK
   have a:=λ(O:xu g≠0) V (R:Below C.heap.size C V)=>U5 v ⟨b,p,k,d,q,ch⟩ Y c4 C.heap.size g V (HT.below (s.trans (R.mono s.size)) HT.pos) (qB HT.pos s.size) ((show Reads C C.heap.size 4 Y g.length (ji g) by rw [I];exact P).below R) R.size uK uK m'.2 hd (λh=>absurd h O) (λ_ _ h=>absurd h O) (λ_ _ h=>absurd h O) (λ_ _ h=>absurd h O)
   rw [I] at f a;unfold opA at a;dsimp only at a;replace iL:=qj iL;by_cases B:xu g=0
   ·rw [B] at f
    replace f:=qj f;clear a P B m' I
    (try go_wp2_with fail)
    refine f.mono ?_;rintro e o ⟨rfl,L⟩;have J:=qj (s.trans ((L.below C.heap.size).mono s.size));clear f L
    go_wp2_with fail;go_ret;exact⟨rfl,J.out⟩
   have a:=a B;rw [oe B] at f;rw [PL.out g B] at a;obtain⟨E,H⟩: ∃E,E=(if F=0 then(6:Int) else F):=⟨_,rfl⟩
   rw [<-H] at a;replace H:=qj H;unfold Jf at a;dsimp only [zF] at a;replace f:=qj f;replace a:=qj a;replace B:=qj B;clear P m' I
   (try go_wp2_with fail)
   refine f.mono ?_;rintro e o ⟨rfl,L⟩;have Q:=L.below C.heap.size;have J:=qj (s.trans (Q.mono s.size));have j:=qj (J'.below Q J'.lt);have N9:=qj (a.out o Q);have z0:o.cell? w.heap.size=some (b:Value):=j.cell 0;have Z:o.cell? ⟨w,1,none⟩=some (.bool p):=j.cell 1;have W:o.cell? ⟨w,2,none⟩=some (k:Value):=j.cell 2;have z3:o.cell? ⟨w,3,none⟩=some (d:Value):=j.cell 3;have X:o.cell? ⟨w,4,none⟩=some (q:Value):=j.cell 4;have z5:o.cell? ⟨w,5,none⟩=some (ch:Value):=j.cell 5;clear f L a
   go_wp2_with fail;refine N9.mono ?_;rintro e y ⟨AB,cB,rfl,d'⟩;have p':=qj (J.trans (d'.2.mono J.size));have z:=j.below d'.2 j.lt;have N6:=qj (KF.out y);clear N9 d' Q z0 Z W z3 X z5 J j;have z0:y.cell? w.heap.size=some (b:Value):=z.cell 0;have Z:y.cell? ⟨w,1,none⟩=some (.bool p):=z.cell 1;have W:y.cell? ⟨w,2,none⟩=some (k:Value):=z.cell 2;have z3:y.cell? ⟨w,3,none⟩=some (d:Value):=z.cell 3;have X:y.cell? ⟨w,4,none⟩=some (q:Value):=z.cell 4;have z5:y.cell? ⟨w,5,none⟩=some (ch:Value):=z.cell 5;clear z KF
   go_wp2_with fail;refine N6.mono ?_;rintro e wC ⟨rfl,hC⟩;have G':=qj (p'.trans (hC.mono p'.size));clear N6 hC p' z0 Z W z3 X z5;by_cases D:F=0
   ·obtain rfl:E=6:=by rw [H.out,qk D]
    subst D
    go_wp2_with fail;go_ret;exact⟨rfl,G'.out⟩
   ·have hFz:(F==0)=false:=by simpa using D
    obtain rfl:E=F:=by rw [H.out,qJ D]
    replace D:=qj D
    go_wp2_with fail;go_ret;exact⟨rfl,G'.out⟩
  ·have hmi2:m+n=(i+1)*n:=by rw [hmi.out,ql]
   clear N S U' D';go_roundw
   case rel=>exact⟨i+1,m+n,c4,Y,by first|rfl|simp,by first|rfl|simp,uK,hmi2,uK,K,U⟩
   case measure=>simp [intOf];omega
end
end Go.Proofs.YtfnlfpcfkbdcmaaGreatDoor
