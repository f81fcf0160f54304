import Derived.Test.YtfnlfpcfkbdcmaaGreatDoorT18
import Derived.Test.YtfnlfpcfkbdcmaaGreatDoorT19
import Derived.Test.YtfnlfpcfkbdcmaaGreatDoorT20
set_option linter.unusedSimpArgs false
set_option linter.unusedVariables false
set_option maxRecDepth 100000
set_option maxHeartbeats 0
open Go.Proofs.Tryz
namespace Go.Proofs.YtfnlfpcfkbdcmaaGreatDoor
open Go.RowKit
section
variable {A Ah At a c:q'}{B N base ch ct d g i nh nt:O}{W W' W4:I}{b s:qn}{hs:S la}{l:S O}{out:S qn}{size:V}{v:la}
structure Dt (W:I) (base g:O) (size:V) (At:q') (nt ct:O) (out:S qn) (Ah:q') (nh ch:O) (hs:S la):Prop where
 blk:F' W g 343 #[Z At nt ct,size,Z Ah nh ch]
 ot:xp W base 9 1 (Z At nt ct) nt (out.map Lj)
 oh:xp W base 9 1 (Z Ah nh ch) nh hs
 ap: ∀k∈K' At,k∉K' Ah
 bs:base<=(W:O)
 gb:base<=g
theorem Dt.jZ (h:Dt W base g size At nt ct out Ah nh ch hs) (a:qE l W W') (b:g∉l) (h1: ∀k∈K' At,k∉l) (h2: ∀k∈K' Ah,k∉l):Dt W' base g size At nt ct out Ah nh ch hs:=
 ⟨a.blk h.blk b,a.own h.ot h1,a.own h.oh h2,h.ap,qv h.bs a.size,h.gb⟩
theorem Dt.fresh (h:Dt W base g size At nt ct out Ah nh ch hs) (a:r' W W W'):Dt W' base g size At nt ct out Ah nh ch hs:=h.jZ (qE.jq (l:=[]) a) s8 s8 s8
theorem Dt.cur {cap:O} {c:Cu} (h:Dt W base g size At nt ct out Ah nh ch hs) (a:Lr W i A N cap b c) (j:qE [i] W W'):Dt W' base g size At nt ct out Ah nh ch hs:=
 h.jZ j (λe=>h.blk.ne_ a.blk FV (qy.1 e)) (λk d f=>qT h.ot a.blk FV k d (qy.1 f)) (λk d f=>qT h.oh a.blk FV k d (qy.1 f))
theorem Dt.lD (h:Dt W base g size At nt ct out Ah nh ch hs) (o:Obj) (m:(W.alloc o).grownBy W4 (At.map (·.block))) (j:xp W4 base 9 1 (Z c (nt+1) d) (nt+1) (out.map Lj++[Lj s])) (n:JU (W.alloc o) At c):
  Dt (W4.setCell g (Z c (nt+1) d)) base g size c (nt+1) d (out++[s]) Ah nh ch hs/\r' base W (W4.setCell g (Z c (nt+1) d)):=by
 have h1:=h.fresh ((qZ _ W).alloc (qx _) o);have e:=(qE.refl _ _).grown m (λk a=> .inl a);have i:=e.blk h1.blk (λa=>qT h1.ot h1.blk FV g a rfl);have l:=e.own h1.oh (λk a b=>h1.ap k b a);have f:qE [g] W4 (W4.setCell g (Z c (nt+1) d)):=(qE.refl _ _).zh (p:= g) (qy.2 rfl) _;refine⟨⟨?_, ?_, ?_, ?_, ?_,h.gb⟩, ?_⟩
 ·have:=i.zh 0 (Z c (nt+1) d);simpa using this
 ·rw [qg];exact f.own j (λk a b=>qT j i FV k a (qy.1 b))
 ·exact f.own l (λk a b=>qT l i FV k a (qy.1 b))
 ·intro k a b;rcases Y9 n k a with h2|h2
  ·exact h.ap k h2 b
  ·have:=(zj h1.oh k b).2;omega
 ·rw [zO];exact qv h1.bs e.size
 ·have h0:=(qZ _ W).alloc h.bs o;exact(h0.trans (e.below (λk a=>(zj h1.ot k a).1) h1.bs)).trans (f.below (λk a=>by rw [qy.1 a];exact h.gb) (qv h1.bs e.size))
theorem Dt.lG (h:Dt W base g size At nt ct out Ah nh ch hs) (o:Obj) (m:(W.alloc o).grownBy W4 (Ah.map (·.block))) (j:xp W4 base 9 1 (Z c (nh+1) d) (nh+1) (hs++[v])) (n:JU (W.alloc o) Ah c):
  Dt (W4.setCell ⟨g,2,none⟩ (Z c (nh+1) d)) base g size At nt ct out c (nh+1) d (hs++[v])/\r' base W (W4.setCell ⟨g,2,none⟩ (Z c (nh+1) d)):=by
 have h1:=h.fresh ((qZ _ W).alloc (qx _) o);have e:=(qE.refl _ _).grown m (λk a=> .inl a);have i:=e.blk h1.blk (λa=>qT h1.oh h1.blk FV g a rfl);have l:=e.own h1.ot (λk a b=>h1.ap k a b);have f:qE [g] W4 (W4.setCell ⟨g,2,none⟩ (Z c (nh+1) d)):=(qE.refl _ _).zh (p:=⟨g,2,none⟩) (qy.2 rfl) _;refine⟨⟨?_, ?_, ?_, ?_, ?_,h.gb⟩, ?_⟩
 ·have:=i.zh 2 (Z c (nh+1) d);simpa using this
 ·exact f.own l (λk a b=>qT l i FV k a (qy.1 b))
 ·exact f.own j (λk a b=>qT j i FV k a (qy.1 b))
 ·intro k a b;rcases Y9 n k b with h2|h2
  ·exact h.ap k a h2
  ·have:=(zj h1.ot k a).2;omega
 ·rw [zO];exact qv h1.bs e.size
 ·have h0:=(qZ _ W).alloc h.bs o;exact(h0.trans (e.below (λk a=>(zj h1.oh k a).1) h1.bs)).trans (f.below (λk a=>by rw [qy.1 a];exact h.gb) (qv h1.bs e.size))
theorem Dt.stepT {l cap:O} {c:Cu} (h:Dt W base g size At nt ct out Ah nh ch hs) (r:Lr W l A N cap b c) (o:Obj) {iv:ByteArray} (v:ByteArray.mk s.toArray=iv) (q:(W.alloc o).grownBy W4 (At.map (·.block))) (t:xp W4 base 9 1 (Z a (nt+1) i) (nt+1) (out.map Lj++[.string iv])) (w:JU (W.alloc o) At a):
  (i' W4 g=J (Z At nt ct)/\W4.frozen? g=false/\i' W4 ⟨g,2,none⟩=J (Z Ah nh ch)/\W4.frozen? ⟨g,2,none⟩=false)/\Dt (W4.setCell g (Z a (nt+1) i)) base g size a (nt+1) i (out++[s]) Ah nh ch hs/\r' base W (W4.setCell g (Z a (nt+1) i))/\Lr (W4.setCell g (Z a (nt+1) i)) l A N cap b c:=by
 subst v;have h0:=(qZ _ W).alloc (qx _) o;have h1:=h.fresh h0;have q1:=r.fresh h0;have m:=(qE.refl _ _).grown q (λk f=> .inl f);have d:=m.blk h1.blk (λf=>qT h1.ot h1.blk FV g f rfl);have j:=q1.jZ m (λe=>qT h1.ot q1.blk FV l e rfl) (xz q1.own h1.ot FV);have n:=h.lD o q t w;refine⟨⟨by rw [d.cell 0];simp,d.frozen 0,by rw [d.cell 2];simp,d.frozen 2⟩,n.1,n.2,j.jZ ((qE.refl [g] W4).zh (qy.2 rfl) _) (λe=>j.blk.ne_ d FV (qy.1 e)) (λk f u=>qT j.own d FV k f (qy.1 u))⟩
theorem Dt.WW {l cap:O} {c:Cu} (h:Dt W base g size At nt ct out Ah nh ch hs) (r:Lr W l A N cap b c) (o:Obj) {f:O} (q:(W.alloc o).grownBy W4 (Ah.map (·.block))) (s:xp W4 base 9 1 (Z a (nh+1) f) (nh+1) (hs++[v])) (u:JU (W.alloc o) Ah a):
  (i' W4 ⟨g,2,none⟩=J (Z Ah nh ch)/\W4.frozen? ⟨g,2,none⟩=false)/\Dt (W4.setCell ⟨g,2,none⟩ (Z a (nh+1) f)) base g size At nt ct out a (nh+1) f (hs++[v])/\r' base W (W4.setCell ⟨g,2,none⟩ (Z a (nh+1) f))/\Lr (W4.setCell ⟨g,2,none⟩ (Z a (nh+1) f)) l A N cap b c:=by
 have h0:=(qZ _ W).alloc (qx _) o;have h1:=h.fresh h0;have q1:=r.fresh h0;have m:=(qE.refl _ _).grown q (λk d=> .inl d);have i:=m.blk h1.blk (λd=>qT h1.oh h1.blk FV g d rfl);have j:=q1.jZ m (λe=>qT h1.oh q1.blk FV l e rfl) (xz q1.own h1.oh FV);have n:=h.lG o q s u;refine⟨⟨by rw [i.cell 2];simp,i.frozen 2⟩,n.1,n.2,j.jZ ((qE.refl [g] W4).zh (qy.2 rfl) _) (λe=>j.blk.ne_ i FV (qy.1 e)) (λk d t=>qT j.own i FV k d (qy.1 t))⟩
def _n (W:I) (base g:O) (size:V) (a:S qn) (b:O):Prop:= ∃At ct Ah ch hs,Dt W base g size At a ct a Ah b ch hs
theorem ue (b:qn) (n:O) (first:Bool) (c:Cu) (a:S qn):QV b (n+1) first c a=if(JE b (a.getLastD []) first c).2.err≠0 then((JE b (a.getLastD []) first c).2.err,a) else QV b n false (JE b (a.getLastD []) first c).2 (a++[(JE b (a.getLastD []) first c).1]):=rfl
def px (a:S qn):Prop:= ∀s∈a,U s<=50
theorem Dp (b a:qn) (first:Bool) (c:Cu) (e:(JE b a first c).2.err=0):(JE b a first c).1.length<=25:=by
 have key: ∀n r,(V8 a first n r).2.err=0->(V8 a first n r).1.length<=25:=by
  intro n r h;unfold V8 at h⊢;split at h
  ·rename_i h1;rw [qk h1];exact qp _
  ·rename_i h1;rw [qJ h1];dsimp only at h⊢;split at h
   ·exact absurd h (dB FV)
   ·rename_i h2;have d:al a (a.take n++r.1)=true:=by
     cases f:al a (a.take n++r.1)
     ·exact absurd (.inr (.inl f)) h2
     ·rfl
    unfold al at d;simp only [zR,zd] at d;exact d.2.1
 cases first
 ·exact key _ _ e
 ·exact key 0 _ e
theorem Uw (W:I) (base g B k nh c:O) (size:V) (Ab:q') (N:O) (b:qn) (cB:S qn) (h:_n W base g size cB nh) (hr:E' W B 1 Ab N (b.map B8)) (hB:B<=(W:O)) (hN:N<=1000000000) (hk:k<=100) (hol:U cB<=2000000) (hnh:nh<=2000000) (hsh:px cB):
  xG 231 #[mJ g,Z Ab N c,k] W λe W'=>e=t' (e' (QV b k true ⟨0,0⟩ cB).1)/\(∃j,_n W' base g size (QV b k true ⟨0,0⟩ cB).2 j/\j<=nh+1)/\r' base W W':=by
 obtain⟨i0,hi,d',iL,p'⟩:=xt XJ;have KN:=T (Qk _ N c B b W hr hB hN);obtain⟨R,hR⟩:=zn (QV b k true ⟨0,0⟩ cB);rw [<-hR];have HG0:G (QV b k (decide ((0:O)=0)) ⟨0,0⟩ cB=R):=hR.symm;have H:=T h;have m':=T hsh;have hbsW:base<=(W:O):=by obtain⟨_,_,_,_,_,hd⟩:=h;exact hd.bs
 clear h hr hR hsh;go_in;go_wp2_with fail;refine KN.mono ?_;rintro e w1 ⟨gc,A,cap,rfl,hc,hgc,hfA,U'⟩;have C:=T hc;have u:G (_n w1 base g size cB nh):=by
  obtain⟨At,ct,Ah,ch,hs,hd⟩:=H.out;exact⟨_,_,_,_,_,hd.fresh U'⟩
 have HB1:=T (U'.mono hbsW);have N6:G (base<=gc):=qv hbsW hgc;clear hc hgc hfA U';go_wp2;go_loopw [15] (λv15 wr=> ∃(i f j:O) (hh:Cu) (o:S qn),v15=(i:la)/\i+f=k/\U o<=U cB+i/\j<=nh+(if i=0 then 0 else 1)/\G (px o)/\G (QV b f (decide (i=0)) hh o=R)/\G (Lr wr gc A N cap b hh)/\G (_n wr base g size o j)/\G (r' base W wr)) (λv15 _=>k-(intOf v15).toNat)
 ·exact⟨0,k,nh,⟨0,0⟩,cB,rfl,M,qx _,s8,m',HG0,C,u,HB1⟩
 ·obtain⟨i,f,j,hh,o,rfl,hif,hlo,Z',m',HG,C,HDI,HB⟩:=hrel;have G':j<=nh+1:=by split at Z'<;>omega
  obtain⟨At,ct,Ah,ch,hs,hd⟩:=HDI.out;have u:=T hd;clear HDI hd;by_cases hlt:i<k
  ·have hlt':=j' i k;obtain⟨f,rfl⟩: ∃f',f=f'+1:=⟨f-1,M⟩;have m:=HG.out;rw [ue] at m;have hsw:U (o.getLastD [])<=50:=by
    rcases List.eq_nil_or_concat o with rfl|⟨o',x,rfl⟩
    ·simp
    ·rw [JG];simp;exact m' _ s8
   have KX:=λ(W':I) (first:Bool) (hc:Lr W' gc A N cap b hh)=>CM _ _ A N _ b (o.getLastD []) first hh hc M
   replace KX:=T KX;have w:=Dp b (o.getLastD []) (decide (i=0)) hh;have hlast:o=[]\/ ∃z,U o=z+1/\(o.map Lj)[z]? =J (Lj (o.getLastD [])):=by
    rcases List.eq_nil_or_concat o with rfl|⟨o',x,rfl⟩
    ·exact .inl rfl
    ·refine .inr ⟨o',s8, ?_⟩;rw [JG];simp
   generalize Q':o.getLastD []=S' at*;have c0:=u.blk.cell 0;simp only [qR,qt] at c0;generalize uK:U o=n at*;replace uK:=T uK;replace m:=T m;clear HG;rcases hlast with X'|⟨z,hn1,hx⟩
   focus
    obtain rfl:n=0:=by rw [<-uK.out,X'];rfl
    have hws:S'=[]:=by rw [<-Q',X'];rfl
    subst hws;clear Q' X';by_cases P':i=0
    focus
     subst P';have qj:decide ((0:O)=0)=true:=rfl;rw [qj] at m w;clear qj;have q:=T (KX _ true C);unfold jS Lj at q;generalize JE b [] true hh=nx at*
    rotate_left
    focus
     have hi1:((i:V)==0)=false:=by rw [zE];omega
     have hi2: ¬(i:V)=0:=M;have qj:decide (i=0)=false:=qc P';rw [qj] at m w;clear qj;have q:=T (KX wr false C);unfold jS Lj at q;generalize JE b [] false hh=nx at*
    rotate_left
   rotate_left 2
   focus
    subst hn1;have hn1':(0:V)<((z+1:O):V):=M;obtain⟨ga,rfl⟩:=Kq u.ot (Nat.succ_pos _);obtain⟨y0,-⟩:=xU u.ot (show z<z+1 by omega);rw [hx] at y0;unfold Lj at y0;have hsub:(((z+1:O):V)-1)=(z:V):=M;replace Q':=T Q';clear hx;by_cases P':i=0
    focus
     subst P';have qj:decide ((0:O)=0)=true:=rfl;rw [qj] at m w;clear qj;go_wp2;go_quiet (fail);have u':=T (C.fresh ((Dr.refl wr|>.drewN nq).below _));have I':=T (u.fresh ((Dr.refl wr|>.drewN nq).below _));have O':=T (HB.trans ((Dr.refl wr|>.drewN nq).below base));generalize wr.drewN nq=wq at*;have q:=T (KX wq true u');clear C HB c0 y0;unfold jS Lj at q;generalize JE b S' true hh=nx at*
    rotate_left
    focus
     have hi1:((i:V)==0)=false:=by rw [zE];omega
     have hi2: ¬(i:V)=0:=M;have qj:decide (i=0)=false:=qc P';rw [qj] at m w;clear qj;go_wp2;go_quiet (fail);have u':=T (C.fresh ((Dr.refl wr|>.drewN nq).below _));have I':=T (u.fresh ((Dr.refl wr|>.drewN nq).below _));have O':=T (HB.trans ((Dr.refl wr|>.drewN nq).below base));generalize wr.drewN nq=wq at*;have q:=T (KX wq false u');clear C HB c0 y0;unfold jS Lj at q;generalize JE b S' false hh=nx at*
    rotate_left
   rotate_left 2
   all_goals
    obtain⟨s,a⟩:=nx;dsimp only at q m w;generalize ln:(ByteArray.mk s.toArray)=L at*;replace ln:=T ln;go_wp2_with fail;refine zC q ?_;rintro y ⟨v,t⟩;have D':=T v
   focus
    have d:=T (u.cur C t);have K:=T (HB.trans (t.below (λk hk=>by rw [qy.1 hk];exact N6) u.bs));have p:=T (jg y _ A N _ b a v);clear v t C HB c0;by_cases l:a.err=0
    focus
     have hs25:=w l;have r:=m.out;rw [qJ (by simpa using l)] at r;replace r:=T r;rw [l] at p;have c0:=d.blk.cell 0;simp only [qR,qt] at c0;have M':0+1<=maxLen:=SJ;have z':(0+1)*16<=140737488355328:=M;clear w;go_wp2_with fail;refine Ω p ?_;have cY:=T (show(o++[s]).length=0+1 by rw [qK,uK.out];rfl);have ck:True:=trivial;have hb3:j+1<=maxLen:=SJ;have hb4:(j+1)*16<=140737488355328:=M;go_wp2_with (first|(at_builtin;refine qF _ rfl (.tmp 54) (.tmp 56) 99 rfl base 9 i0 (.string "".toUTF8) 1 16 jD hi.out d'.out iL.out p'.out rfl M At _ ct _ rfl (d.out.ot.alloc _) ((y:O)+1) y 1 1 [.string L] rfl (zU _ _ _) (IB rfl) M' z' (qv d.out.bs s8) ?_;clear ck;intro X cK iv P cL Q;obtain⟨⟨j3,k3,x3,y3⟩,h3,F,D⟩:=d.out.stepT D'.out _ ln.out cL P Q;replace h3:=T h3;replace F:=T (K.out.trans F);replace D:=T D;clear P cL Q)|(at_builtin;refine qF _ rfl (.tmp 67) (.tmp 69) 99 rfl base 9 i0 (.string "".toUTF8) 1 16 jD hi.out d'.out iL.out p'.out rfl M Ah j ch _ rfl (h3.out.oh.alloc _) ((iv:O)+1) iv 1 1 [.string L] rfl (by have:=zU (iv.setCell g (Z X (0+1) cK)) (.string L) 9;rwa [zO] at this) (IB rfl) hb3 hb4 (qv h3.out.bs s8) ?_;intro A5 c5 w5 N9 N' OX;obtain⟨⟨j5,k5⟩,h5,b5,d5⟩:=h3.out.WW D.out _ N' N9 OX;replace h5:=T h5;replace b5:=T (F.out.trans b5);replace d5:=T d5;clear N9 N' OX));have gA:=trivial
    rotate_left
    focus have gB:=trivial
   rotate_left 2
   focus
    have d:=T (u.cur C t);have K:=T (HB.trans (t.below (λk hk=>by rw [qy.1 hk];exact N6) u.bs));have p:=T (jg y _ A N _ b a v);clear v t C HB c0;by_cases l:a.err=0
    focus
     have hs25:=w l;have r:=m.out;rw [qJ (by simpa using l)] at r;replace r:=T r;rw [l] at p;have c0:=d.blk.cell 0;simp only [qR,qt] at c0;have M':0+1<=maxLen:=SJ;have z':(0+1)*16<=140737488355328:=M;clear w;go_wp2_with fail;refine Ω p ?_;have cY:=T (show(o++[s]).length=0+1 by rw [qK,uK.out];rfl);have ck:True:=trivial;go_wp2_with (at_builtin;refine qF _ rfl (.tmp 54) (.tmp 56) 99 rfl base 9 i0 (.string "".toUTF8) 1 16 jD hi d' iL p' rfl M At _ ct _ rfl (d.ot.alloc _) ((y:O)+1) y 1 1 [.string L] rfl (zU _ _ _) (IB rfl) M' z' (qv d.bs s8) ?_;clear ck;intro X cK iv P cL Q;obtain⟨⟨j3,k3,x3,y3⟩,h3,F,D⟩:=d.stepT D' _ ln cL P Q;replace h3:=T h3;replace F:=T (K.trans F);replace D:=T D;clear P cL Q);have J':G (px (o++[s])):=λx hx=>(zt.1 hx).elim (m' x) λh=>by rw [qy.1 h];omega
     have HI:G (_n (iv.setCell g (Z X (0+1) cK)) base g size (o++[s]) j):=⟨X,cK,_,_,_,by rw [cY.out];exact h3⟩
    rotate_left
    focus have gB:=trivial
   rotate_left 2
   focus
    have d:=T (I'.cur u' t);have K:=T (O'.trans (t.below (λk hk=>by rw [qy.1 hk];exact N6) I'.bs));have p:=T (jg y _ A N _ b a v);clear v t;by_cases l:a.err=0
    focus
     have hs25:=w l;have r:=m.out;rw [qJ (by simpa using l)] at r;replace r:=T r;rw [l] at p;have c0:=d.blk.cell 0;simp only [qR,qt] at c0;have M':z+1+1<=maxLen:=SJ;have z':(z+1+1)*16<=140737488355328:=M;clear w;go_wp2_with fail;refine Ω p ?_;have cY:=T (show(o++[s]).length=z+1+1 by rw [qK,uK.out];rfl);have ck:True:=trivial;have hb3:j+1<=maxLen:=SJ;have hb4:(j+1)*16<=140737488355328:=M;go_wp2_with (first|(at_builtin;refine qF _ rfl (.tmp 54) (.tmp 56) 99 rfl base 9 i0 (.string "".toUTF8) 1 16 jD hi.out d'.out iL.out p'.out rfl M ga _ ct _ rfl (d.out.ot.alloc _) ((y:O)+1) y 1 1 [.string L] rfl (zU _ _ _) (IB rfl) M' z' (qv d.out.bs s8) ?_;clear ck;intro X cK iv P cL Q;obtain⟨⟨j3,k3,x3,y3⟩,h3,F,D⟩:=d.out.stepT D'.out _ ln.out cL P Q;replace h3:=T h3;replace F:=T (K.out.trans F);replace D:=T D;clear P cL Q)|(at_builtin;refine qF _ rfl (.tmp 67) (.tmp 69) 99 rfl base 9 i0 (.string "".toUTF8) 1 16 jD hi.out d'.out iL.out p'.out rfl M Ah j ch _ rfl (h3.out.oh.alloc _) ((iv:O)+1) iv 1 1 [.string L] rfl (by have:=zU (iv.setCell g (Z X (z+1+1) cK)) (.string L) 9;rwa [zO] at this) (IB rfl) hb3 hb4 (qv h3.out.bs s8) ?_;intro A5 c5 w5 N9 N' OX;obtain⟨⟨j5,k5⟩,h5,b5,d5⟩:=h3.out.WW D.out _ N' N9 OX;replace h5:=T h5;replace b5:=T (F.out.trans b5);replace d5:=T d5;clear N9 N' OX));have gA:=trivial
    rotate_left
    focus have gC:=trivial
   rotate_left 2
   focus
    have d:=T (I'.cur u' t);have K:=T (O'.trans (t.below (λk hk=>by rw [qy.1 hk];exact N6) I'.bs));have p:=T (jg y _ A N _ b a v);clear v t;by_cases l:a.err=0
    focus
     have hs25:=w l;have r:=m.out;rw [qJ (by simpa using l)] at r;replace r:=T r;rw [l] at p;have c0:=d.blk.cell 0;simp only [qR,qt] at c0;have M':z+1+1<=maxLen:=SJ;have z':(z+1+1)*16<=140737488355328:=M;clear w;go_wp2_with fail;refine Ω p ?_;have cY:=T (show(o++[s]).length=z+1+1 by rw [qK,uK.out];rfl);have ck:True:=trivial;go_wp2_with (at_builtin;refine qF _ rfl (.tmp 54) (.tmp 56) 99 rfl base 9 i0 (.string "".toUTF8) 1 16 jD hi d' iL p' rfl M ga _ ct _ rfl (d.ot.alloc _) ((y:O)+1) y 1 1 [.string L] rfl (zU _ _ _) (IB rfl) M' z' (qv d.bs s8) ?_;clear ck;intro X cK iv P cL Q;obtain⟨⟨j3,k3,x3,y3⟩,h3,F,D⟩:=d.stepT D' _ ln cL P Q;replace h3:=T h3;replace F:=T (K.trans F);replace D:=T D;clear P cL Q);have J':G (px (o++[s])):=λx hx=>(zt.1 hx).elim (m' x) λh=>by rw [qy.1 h];omega
     have HI:G (_n (iv.setCell g (Z X (z+1+1) cK)) base g size (o++[s]) j):=⟨X,cK,_,_,_,by rw [cY.out];exact h3⟩
    rotate_left
    focus have gC:=trivial
   all_goals first
    |clear gA
     have J':G (px (o++[s])):=λx hx=>(zt.1 hx).elim (m' x) λh=>by rw [qy.1 h];omega
     have HI:G (_n (w5.setCell ⟨g,2,none⟩ (Z A5 (j+1) c5)) base g size (o++[s]) (j+1)):=⟨X,cK,A5,c5,_,by rw [cY.out];exact h5⟩;refine xk ?_;exact⟨1,f,j+1,a,o++[s],xg,M,by rw [cY.out];omega,by simp at Z'⊢;omega,J',r,d5,HI,b5⟩
    |clear gB
     have HR:G (R=(a.err,o)):=by rw [Hid,<-m.out,qk (by simpa using l)]
     have Y':(a.err==0)=false:=by simpa using l
     generalize ih:a.err=E at*;clear l;go_wp2_with fail;refine Ω p ?_;go_wp2;go_ret;rw [HR.out];refine⟨rfl,⟨j,⟨At,ct,Ah,ch,hs, ?_⟩,G'⟩,K⟩;rw [uK.out];exact d.out
    |clear gC
     have HR:G (R=(a.err,o)):=by rw [Hid,<-m.out,qk (by simpa using l)]
     have Y':(a.err==0)=false:=by simpa using l
     generalize ih:a.err=E at*;replace ih:=T ih;clear l;go_wp2_with fail;refine Ω p ?_;go_wp2;go_ret;rw [HR.out];refine⟨rfl,⟨j,⟨ga,ct,Ah,ch,hs, ?_⟩,G'⟩,K⟩;rw [uK.out];exact d.out
    |have HG4:G (QV b f (decide (i+1=0)) a (o++[s])=R):=by rw [Hid,show decide (i+1=0)=false from qc M];exact r.out
     refine xk ?_;exact⟨i+1,f,j,a,o++[s],xg,M,by rw [cY.out];omega,by rw [qJ M];exact G',J',HG4,D,HI,F⟩
  ·obtain rfl:i=k:=M;obtain rfl:f=0:=M;have p:=T (uu _ _ A N _ b hh C);have HR:G (R=((PW b hh).err,o)):=by rw [Hid,<-HG.out];rfl
   unfold jS at p;generalize PW b hh=a at*;generalize ih:a.err=E at*;clear HG;go_wp2_with fail;refine zC p ?_;rintro y ⟨v,t⟩;have d:=T (u.cur C t);have K:=T (HB.trans (t.below (λk hk=>by rw [qy.1 hk];exact N6) u.bs));clear v t;go_wp2;go_ret;rw [HR.out];exact⟨rfl,⟨j,⟨At,ct,Ah,ch,hs,d⟩,G'⟩,K⟩
end
section
variable {Ah Al c f:q'}{B a b base ch cl g nh nl wd x:O}{W W' W4 w w' w2:I}{hs l l' ls:S O}{t:TypeId}
def LV (x:O):Value:= .int .u16 (x:V)
def hiL (b:O) (a:S O):S Nat:=a.map (λx=>x/2^b)
def loL (b:O) (a:S O):S Nat:=a.map (λx=>x%2^b)
theorem Ot (a:O) (b:S O) (x:O):hiL a (b++[x])=hiL a b++[x/2^a]:=qg ..
theorem OT (a:O) (b:S O) (x:O):loL a (b++[x])=loL a b++[x%2^a]:=qg ..
theorem BH:(prog.info? 25).map (λi=>(i.zero,i.size,i.bytes))=J (some (.int .u16 0),1,2):=AL
theorem XM:(prog.info? 3).map (λi=>(i.zero,i.size,i.bytes))=J (some (e' 0),1,8):=AL
structure Zs (base:O) (l:S O) (w w':I):Prop where
 os:w'.os=w.os
 tape:w'.tape=w.tape
 output:w'.output=w.output
 size:(w:O)<=(w':O)
 block: ∀k,k<(w:O)->k<base->k∉l->w'.heap[k]? =w.heap[k]?
theorem Zs.refl (base:O) (l:S O) (w:I):Zs base l w w:=⟨rfl,rfl,rfl,qx _,λ_ _ _ _=>rfl⟩
theorem Zs.fY (h:qE l' w w') (c: ∀k∈l',k∈l\/base<=k):Zs base l w w':=⟨h.os,h.tape,h.output,h.size,λk a d b=>h.block k a λe=>(c k e).elim b λh2=>M⟩
theorem Zs.trans (h:Zs base l w w') (a:Zs base l w' w2):Zs base l w w2:=
 ⟨a.os.trans h.os,a.tape.trans h.tape,a.output.trans h.output,qv h.size a.size,λk d c b=>(a.block k (qB d h.size) c b).trans (h.block k d c b)⟩
theorem Zs.fresh (h:Zs base l w w') (a:r' w' w' w2):Zs base l w w2:=h.trans ⟨a.os,a.tape,a.output,a.size,λk b _ _=>a.block k b⟩
theorem Zs.below (h:Zs base l w w') (c:B<=(w:O)) (b:B<=base) (a: ∀k∈l,B<=k):r' B w w':=⟨h.os,h.tape,h.output,h.size,λk d=>h.block k M M λe=>by have:=a k e;omega⟩
theorem Zs.blk {g:O} {t:TypeId} {a:Array la} (h:Zs base l w w') (b:F' w g t a) (c:g<base) (d:g∉l):F' w' g t a:=(h.block g b.lt c d).trans b
theorem Zs.own {size n c:O} {A:q'} {E:TypeId} {f:S la} (h:Zs base l w w') (e:xp w b E size (Z A n c) n f) (i: ∀k∈K' A,k<base/\k∉l):xp w' b E size (Z A n c) n f:=
 zI e λa d=>by
  obtain⟨m,j,g⟩:=jV e _ (by rw [d];rfl)
  have h2:=i _ (ZO.2 (by rw [d];rfl))
  exact h.block _ (jz g) h2.1 h2.2
structure Pt (W:I) (base g:O) (t:TypeId) (wd:O) (Ah:q') (nh ch:O) (hs:S O) (Al:q') (nl cl:O) (ls:S O):Prop where
 blk:F' W g t #[wd,Z Ah nh ch,Z Al nl cl]
 oh:xp W base 3 1 (Z Ah nh ch) nh (hs.map NV)
 ol:xp W base 25 1 (Z Al nl cl) nl (ls.map LV)
 t1:3≠t
 t2:25≠t
 bs:base<=(W:O)
theorem Pt.jZ (h:Pt W base g t wd Ah nh ch hs Al nl cl ls) (a:qE l W W') (e:g∉l) (d: ∀k∈l,k<base):Pt W' base g t wd Ah nh ch hs Al nl cl ls:=
 ⟨a.blk h.blk e,a.own h.oh (λk b c=>by have:=(zj h.oh k b).1;have:=d k c;omega),a.own h.ol (λk b c=>by have:=(zj h.ol k b).1;have:=d k c;omega),h.t1,h.t2,qv h.bs a.size⟩
theorem Pt.fresh (h:Pt W base g t wd Ah nh ch hs Al nl cl ls) (a:r' W W W'):Pt W' base g t wd Ah nh ch hs Al nl cl ls:=h.jZ (qE.jq (l:=[]) a) s8 s8
theorem Pt.drew (h:Pt W base g t wd Ah nh ch hs Al nl cl ls):Pt W.drew base g t wd Ah nh ch hs Al nl cl ls:=h.fresh ((Dr.refl W|>.drewN 1).below _)
theorem Pt.hi (h:Pt W base g t wd Ah nh ch hs Al nl cl ls) (o:Obj) (m:(W.alloc o).grownBy W4 (Ah.map (·.block))) (j:xp W4 base 3 1 (Z c (nh+1) b) (nh+1) (hs.map NV++[NV x])):
  Pt (W4.setCell ⟨g,1,none⟩ (Z c (nh+1) b)) base g t wd c (nh+1) b (hs++[x]) Al nl cl ls/\Zs base [g] W (W4.setCell ⟨g,1,none⟩ (Z c (nh+1) b)):=by
 have h1:=h.fresh ((qZ _ W).alloc (qx _) o);have d:=(qE.refl _ _).grown m (λk a=> .inl a);have i:=d.blk h1.blk (λa=>qT h1.oh h1.blk h1.t1 g a rfl);have l:=d.own h1.ol (xz h1.ol h1.oh FV);have f:qE [g] W4 (W4.setCell ⟨g,1,none⟩ (Z c (nh+1) b)):=(qE.refl _ _).zh (p:=⟨g,1,none⟩) (qy.2 rfl) _;refine⟨⟨?_, ?_, ?_,h.t1,h.t2, ?_⟩, ?_⟩
 ·have:=i.zh 1 (Z c (nh+1) b);simpa using this
 ·rw [qg];exact f.own j (λk a e=>qT j i h.t1 k a (qy.1 e))
 ·exact f.own l (λk a e=>qT l i h.t2 k a (qy.1 e))
 ·rw [zO];exact qv h1.bs d.size
 ·refine((Zs.refl base [g] W).fresh ((qZ _ W).alloc (qx _) o)).trans ((Zs.fY d (λk a=> .inr (zj h1.oh k a).1)).trans (Zs.fY f (λk a=> .inl a)))
theorem Pt.lo (h:Pt W base g t wd Ah nh ch hs Al nl cl ls) (o:Obj) (m:(W.alloc o).grownBy W4 (Al.map (·.block))) (j:xp W4 base 25 1 (Z c (nl+1) b) (nl+1) (ls.map LV++[LV x])):
  Pt (W4.setCell ⟨g,2,none⟩ (Z c (nl+1) b)) base g t wd Ah nh ch hs c (nl+1) b (ls++[x])/\Zs base [g] W (W4.setCell ⟨g,2,none⟩ (Z c (nl+1) b)):=by
 have h1:=h.fresh ((qZ _ W).alloc (qx _) o);have d:=(qE.refl _ _).grown m (λk a=> .inl a);have i:=d.blk h1.blk (λa=>qT h1.ol h1.blk h1.t2 g a rfl);have l:=d.own h1.oh (xz h1.oh h1.ol FV);have f:qE [g] W4 (W4.setCell ⟨g,2,none⟩ (Z c (nl+1) b)):=(qE.refl _ _).zh (p:=⟨g,2,none⟩) (qy.2 rfl) _;refine⟨⟨?_, ?_, ?_,h.t1,h.t2, ?_⟩, ?_⟩
 ·have:=i.zh 2 (Z c (nl+1) b);simpa using this
 ·exact f.own l (λk a e=>qT l i h.t1 k a (qy.1 e))
 ·rw [qg];exact f.own j (λk a e=>qT j i h.t2 k a (qy.1 e))
 ·rw [zO];exact qv h1.bs d.size
 ·refine((Zs.refl base [g] W).fresh ((qZ _ W).alloc (qx _) o)).trans ((Zs.fY d (λk a=> .inr (zj h1.ol k a).1)).trans (Zs.fY f (λk a=> .inl a)))
theorem Pt.c0 (h:Pt W base g t wd Ah nh ch hs Al nl cl ls):i' W g=J (wd:la):=by rw [h.blk.cell 0];simp
theorem Pt.c1 (h:Pt W base g t wd Ah nh ch hs Al nl cl ls):i' W ⟨g,1,none⟩=J (Z Ah nh ch):=by rw [h.blk.cell 1];simp
theorem Pt.c2 (h:Pt W base g t wd Ah nh ch hs Al nl cl ls):i' W ⟨g,2,none⟩=J (Z Al nl cl):=by rw [h.blk.cell 2];simp
theorem Pt.WW (h:Pt W base g t wd Ah nh ch hs Al nl cl ls) (o:Obj) {b:q'} (e:(W.alloc o).grownBy W4 (Ah.map (·.block))) (f:xp W4 base 3 1 (Z b (nh+1) a) (nh+1) (hs.map NV++[NV x])):
  (i' W4 g=J (wd:la)/\i' W4 ⟨g,1,none⟩=J (Z Ah nh ch)/\W4.frozen? ⟨g,1,none⟩=false)/\Pt (W4.setCell ⟨g,1,none⟩ (Z b (nh+1) a)) base g t wd b (nh+1) a (hs++[x]) Al nl cl ls/\Zs base [g] W (W4.setCell ⟨g,1,none⟩ (Z b (nh+1) a)):=by
 have h1:=h.fresh ((qZ _ W).alloc (qx _) o);have d:=((qE.refl (K' Ah) (W.alloc o)).grown e (λk c=> .inl c)).blk h1.blk (λc=>qT h1.oh h1.blk h1.t1 g c rfl);exact⟨⟨by rw [d.cell 0];simp,by rw [d.cell 1];simp,d.frozen 1⟩,h.hi o e f⟩
theorem Pt.lU (h:Pt W base g t wd Ah nh ch hs Al nl cl ls) (o:Obj) {b:q'} (e:(W.alloc o).grownBy W4 (Al.map (·.block))) (f:xp W4 base 25 1 (Z b (nl+1) a) (nl+1) (ls.map LV++[LV x])):
  (i' W4 g=J (wd:la)/\i' W4 ⟨g,2,none⟩=J (Z Al nl cl)/\W4.frozen? ⟨g,2,none⟩=false)/\Pt (W4.setCell ⟨g,2,none⟩ (Z b (nl+1) a)) base g t wd Ah nh ch hs b (nl+1) a (ls++[x])/\Zs base [g] W (W4.setCell ⟨g,2,none⟩ (Z b (nl+1) a)):=by
 have h1:=h.fresh ((qZ _ W).alloc (qx _) o);have d:=((qE.refl (K' Al) (W.alloc o)).grown e (λk c=> .inl c)).blk h1.blk (λc=>qT h1.ol h1.blk h1.t2 g c rfl);exact⟨⟨by rw [d.cell 0];simp,by rw [d.cell 2];simp,d.frozen 2⟩,h.lo o e f⟩
def _q (W:I) (base g:O) (t:TypeId) (b:O) (a:S O):Prop:= ∃Ah ch Al cl,Pt W base g t b Ah a ch (hiL b a) Al a cl (loL b a)
def ME (W:I) (base g:O) (t:TypeId) (c:O) (b:S O) (e:Ending) (a:I):Prop:=e=t' (BA #[])/\_q a base g t c b/\Zs base [g] W a
theorem Mr (x a:O) (c:x<9223372036854775808) (b:a<=14):bits .and .i64 (x:V) (((2^a-1:O)):V)=((x%2^a:O):V):=by
 have h1:2^a<=2^14:=zZ M b;rw [a8 x _ c M,Nat.and_two_pow_sub_one_eq_mod]
def bdC (a b:la) (k i:O):Array Value:= #[a,b,k,i,z8,z8,z8,z8,z8,z8]
structure JN (W:I) (base g:O) (A0:q') (n0 c0:O) (x:S O) (A1:q') (n1 c1:O) (y:S O) (k i:O):Prop where
 blk:F' W g 174 (bdC (Z A0 n0 c0) (Z A1 n1 c1) k i)
 o0:xp W base 3 1 (Z A0 n0 c0) n0 (x.map NV)
 o1:xp W base 3 1 (Z A1 n1 c1) n1 (y.map NV)
 ap: ∀k∈K' A0,k∉K' A1
 bs:base<=(W:O)
end
section
variable {A A0 A1 f:q'}{B N a base c0 c1 cap d g gc i k n0 n1 v:O}{cY W W' W4:I}{b:qn}{c:Cu}{l x y:S O}{t:TypeId}
theorem JN.q0 (h:JN W base g A0 n0 c0 x A1 n1 c1 y k i):i' W g=J (Z A0 n0 c0):=h.blk.cell 0
theorem JN.q1 (h:JN W base g A0 n0 c0 x A1 n1 c1 y k i):i' W ⟨g,1,none⟩=J (Z A1 n1 c1):=h.blk.cell 1
theorem JN.q2 (h:JN W base g A0 n0 c0 x A1 n1 c1 y k i):i' W ⟨g,2,none⟩=J (k:la):=h.blk.cell 2
theorem JN.q3 (h:JN W base g A0 n0 c0 x A1 n1 c1 y k i):i' W ⟨g,3,none⟩=J (i:la):=h.blk.cell 3
theorem JN.jZ (h:JN W base g A0 n0 c0 x A1 n1 c1 y k i) (a:qE l W W') (b:g∉l) (h1: ∀k∈K' A0,k∉l) (h2: ∀k∈K' A1,k∉l):JN W' base g A0 n0 c0 x A1 n1 c1 y k i:=
 ⟨a.blk h.blk b,a.own h.o0 h1,a.own h.o1 h2,h.ap,qv h.bs a.size⟩
theorem JN.fresh (h:JN W base g A0 n0 c0 x A1 n1 c1 y k i) (a:r' W W W'):JN W' base g A0 n0 c0 x A1 n1 c1 y k i:=h.jZ (qE.jq (l:=[]) a) s8 s8 s8
theorem JN.cur (h:JN W base g A0 n0 c0 x A1 n1 c1 y k i) (d:Lr W gc A N cap b c) (j:qE [gc] W W'):JN W' base g A0 n0 c0 x A1 n1 c1 y k i:=
 h.jZ j (λe=>h.blk.ne_ d.blk FV (qy.1 e)) (λk f a=>qT h.o0 d.blk FV k f (qy.1 a)) (λk f a=>qT h.o1 d.blk FV k f (qy.1 a))
theorem JN.lH (h:JN W base g A0 n0 c0 x A1 n1 c1 y k i) (w:Lr W gc A N cap b c) (o:Obj) {l:O} (B:(W.alloc o).grownBy W4 (A0.map (·.block))) (r:xp W4 base 3 1 (Z f (n0+1) l) (n0+1) (x.map NV++[NV v])) (C:JU (W.alloc o) A0 f) (z:(cY:O)<=base) (u:qE [g] cY W):
  (i' W4 g=J (Z A0 n0 c0)/\W4.frozen? g=false)/\JN (W4.setCell g (Z f (n0+1) l)) base g f (n0+1) l (x++[v]) A1 n1 c1 y k i/\qE [g] cY (W4.setCell g (Z f (n0+1) l))/\Lr (W4.setCell g (Z f (n0+1) l)) gc A N cap b c:=by
 have t:=(qZ _ W).alloc (qx _) o;have h1:=h.fresh t;have q1:=w.fresh t;have m:=(qE.refl _ _).grown B (λk a=> .inl a);have j:=m.blk h1.blk (λa=>qT h1.o0 h1.blk FV g a rfl);have s:=m.own h1.o1 (λk a d=>h1.ap k d a);have n:=q1.jZ m (λe=>qT h1.o0 q1.blk FV _ e rfl) (xz q1.own h1.o0 FV);have q:qE [g] W4 (W4.setCell g (Z f (n0+1) l)):=(qE.refl _ _).zh (p:= g) (qy.2 rfl) _;refine⟨⟨j.cell 0,j.frozen 0⟩,⟨j.zh 0 _, ?_, ?_, ?_, ?_⟩, ?_, ?_⟩
 ·rw [qg];exact q.own r (λk a d=>qT r j FV k a (qy.1 d))
 ·exact q.own s (λk a d=>qT s j FV k a (qy.1 d))
 ·intro k a d;rcases Y9 C k a with h2|h2
  ·exact h.ap k h2 d
  ·have:=(zj h1.o1 k d).2;omega
 ·rw [zO];exact qv h1.bs m.size
 ·exact((u.alloc o).trans m (λk a=> .inr (qv z (zj h1.o0 k a).1))).zh (p:= g) (qy.2 rfl) _
 ·exact n.jZ q (λe=>n.blk.ne_ j FV (qy.1 e)) (λk a d=>qT n.own j FV k a (qy.1 d))
theorem JN.lB (h:JN W base g A0 n0 c0 x A1 n1 c1 y k i) (w:Lr W gc A N cap b c) (o:Obj) {l:O} (B:(W.alloc o).grownBy W4 (A1.map (·.block))) (r:xp W4 base 3 1 (Z f (n1+1) l) (n1+1) (y.map NV++[NV v])) (C:JU (W.alloc o) A1 f) (z:(cY:O)<=base) (u:qE [g] cY W):
  (i' W4 ⟨g,1,none⟩=J (Z A1 n1 c1)/\W4.frozen? ⟨g,1,none⟩=false)/\JN (W4.setCell ⟨g,1,none⟩ (Z f (n1+1) l)) base g A0 n0 c0 x f (n1+1) l (y++[v]) k i/\qE [g] cY (W4.setCell ⟨g,1,none⟩ (Z f (n1+1) l))/\Lr (W4.setCell ⟨g,1,none⟩ (Z f (n1+1) l)) gc A N cap b c:=by
 have t:=(qZ _ W).alloc (qx _) o;have h1:=h.fresh t;have q1:=w.fresh t;have m:=(qE.refl _ _).grown B (λk a=> .inl a);have j:=m.blk h1.blk (λa=>qT h1.o1 h1.blk FV g a rfl);have s:=m.own h1.o0 (λk a d=>h1.ap k a d);have n:=q1.jZ m (λe=>qT h1.o1 q1.blk FV _ e rfl) (xz q1.own h1.o1 FV);have q:qE [g] W4 (W4.setCell ⟨g,1,none⟩ (Z f (n1+1) l)):=(qE.refl _ _).zh (p:=⟨g,1,none⟩) (qy.2 rfl) _;refine⟨⟨j.cell 1,j.frozen 1⟩,⟨j.zh 1 _, ?_, ?_, ?_, ?_⟩, ?_, ?_⟩
 ·exact q.own s (λk a d=>qT s j FV k a (qy.1 d))
 ·rw [qg];exact q.own r (λk a d=>qT r j FV k a (qy.1 d))
 ·intro k a d;rcases Y9 C k d with h2|h2
  ·exact h.ap k a h2
  ·have:=(zj h1.o0 k a).2;omega
 ·rw [zO];exact qv h1.bs m.size
 ·exact((u.alloc o).trans m (λk a=> .inr (qv z (zj h1.o1 k a).1))).zh (p:=⟨g,1,none⟩) (qy.2 rfl) _
 ·exact n.jZ q (λe=>n.blk.ne_ j FV (qy.1 e)) (λk a d=>qT n.own j FV k a (qy.1 d))
theorem JN.GS (h:JN W base g A0 n0 c0 x A1 n1 c1 y k i) (f:Lr W gc A N cap b c) (v:O) (l:qE [g] cY W):
  JN (W.setCell ⟨g,2,none⟩ v) base g A0 n0 c0 x A1 n1 c1 y v i/\qE [g] cY (W.setCell ⟨g,2,none⟩ v)/\Lr (W.setCell ⟨g,2,none⟩ v) gc A N cap b c:=by
 have j:qE [g] W (W.setCell ⟨g,2,none⟩ v):=(qE.refl _ _).zh (p:=⟨g,2,none⟩) (qy.2 rfl) _;exact⟨⟨h.blk.zh 2 _,j.own h.o0 (λk a d=>qT h.o0 h.blk FV k a (qy.1 d)),j.own h.o1 (λk a d=>qT h.o1 h.blk FV k a (qy.1 d)),h.ap,by rw [zO];exact h.bs⟩,l.zh (p:=⟨g,2,none⟩) (qy.2 rfl) _,
  f.jZ j (λe=>f.blk.ne_ h.blk FV (qy.1 e)) (λk a d=>qT f.own h.blk FV k a (qy.1 d))⟩
theorem JN.gJ (h:JN W base g A0 n0 c0 x A1 n1 c1 y k i) (f:Lr W gc A N cap b c) (v:O) (l:qE [g] cY W):
  JN (W.setCell ⟨g,3,none⟩ v) base g A0 n0 c0 x A1 n1 c1 y k v/\qE [g] cY (W.setCell ⟨g,3,none⟩ v)/\Lr (W.setCell ⟨g,3,none⟩ v) gc A N cap b c:=by
 have j:qE [g] W (W.setCell ⟨g,3,none⟩ v):=(qE.refl _ _).zh (p:=⟨g,3,none⟩) (qy.2 rfl) _;exact⟨⟨h.blk.zh 3 _,j.own h.o0 (λk a d=>qT h.o0 h.blk FV k a (qy.1 d)),j.own h.o1 (λk a d=>qT h.o1 h.blk FV k a (qy.1 d)),h.ap,by rw [zO];exact h.bs⟩,l.zh (p:=⟨g,3,none⟩) (qy.2 rfl) _,
  f.jZ j (λe=>f.blk.ne_ h.blk FV (qy.1 e)) (λk a d=>qT f.own h.blk FV k a (qy.1 d))⟩
theorem Bc (b:qn) (w:O): ∀(i a:O),Ka b w (i+1) a=Ka b w i a++[kM b (a+i*w) w]
 |0,a=>by simp [Ka]
 |i+1,a=>by
  show kM b a w::Ka b w (i+1) (a+w)=kM b a w::Ka b w i (a+w)++[_]
  rw [Bc b w i (a+w),vo,show w+i*w=(i+1)*w by rw [ql,Nat.add_comm]];rfl
theorem Ut (b:qn) (w:O): ∀(i a:O),U (Ka b w i a)=i
 |0,a=>rfl
 |i+1,a=>by show(Ka b w i (a+w)).length+1=i+1;rw [Ut b w i]
def uz (b:qn) (w n i a:O):S Nat:=Ka b w i a++List.replicate (n-i) 0
theorem nE (b:qn) (w n i a:O) (h:i<n):(uz b w n i a).set i (kM b (a+i*w) w)=uz b w n (i+1) a:=by
 unfold uz;have c:=Ut b w i a;rw [Bc,Qh (h:=by omega),c,xO,show n-i=(n-(i+1))+1 by omega,List.replicate_succ,jY];rfl
theorem Ws {b:qn} {at_ w:O} (h:w<=kq b at_) (c:w<=14):CI b at_ (w:V)=0/\tn b at_ (w:V)=kM b at_ w/\ti b at_ (w:V)=at_+w:=by
 have a:CI b at_ (w:V)=0:=by unfold CI;rw [qJ M,qJ M]
 refine⟨a, ?_, ?_⟩
 ·unfold tn;rw [qk a];rfl
 ·unfold ti;rw [qk a];rfl
def iP (W:I) (h:O) (A:q') (N cap:O) (b:qn) (n a c:O) (e:Ending) (d:I):Prop:=
 (kq b c<n*a/\e=t' (BA #[z8,e' 1])/\r' W W d)\/
 (n*a<=kq b c/\ ∃g f,e=t' (BA #[Z g n f,()])/\xp d W 25 1 (Z g n f) n ((Ka b a n c).map LV)/\Rd d h A N cap b (c+n*a)/\qE [h] W d)
theorem Tk (W:I) (d:O) (A:q') (N cap:O) (b:qn) (n a c:O) (h:Rd W d A N cap b c) (h1:1<=n) (hn:n<=20000) (hh:a<=14):
  xG 271 #[mJ d,n,a] W (iP W d A N cap b n a c):=by
 obtain⟨j0,cL,qj,L,Q⟩:=xt BH;have s:=T (XV W d A N _ c b h);have Y':=xA hn hh;have z':(n:V)*(a:V)=((n*a:O):V):=(zB _ _).symm;have hle:=h.le;have Z':=h.lim;have N6:kq b c<=8000000000:=by unfold kq;rw [h.len];omega
 have H:=T h;have P':=T h.blk.lt;obtain⟨P,r⟩:=zn (n*a);rw [<-r] at Y' z';unfold iP;rw [<-r];obtain⟨lf,B⟩:=zn (kq b c);rw [<-B] at s N6⊢;replace r:=T r;replace B:=T B;clear h hle Z';by_cases hlt:lf<P
 ·have hlt':=j' lf P;go_in;go_wp2_with fail;refine zC s ?_;intro j g;have HB:=T (g.below W);clear g;go_wp2;go_ret2;exact .inl ⟨hlt,rfl,HB⟩
 ·have G':n<=maxLen:=SJ;have cB:G ((madeCells (Value.int .u16 0).cells (n*1)).toList=(uz b a n 0 c).map LV):=by
   rw [Hid,z_];show(madeCells #[Value.int .u16 0] n).toList=_;rw [xf];simp [uz,Ka,LV]
  go_in;go_wp2_with fail;refine zC s ?_;intro j g;have H1:=T (H.dr g);have cY:=T (Zp (l:=[d]) g);have ih:=g.size;clear g;go_wp2_with (at_make;refine xP _ rfl _ _ 212 rfl j 25 j0 (.int .u16 0) 1 underlying212 cL qj L .i64 .i64 _ _ n rfl rfl rfl rfl (by rw [Q.out];omega) G' (qx _) ?_;intro X ln D';rw [cB.out] at ln;have w:=T ln;have iv:=T ((qZ j j).grown D' (qx _) (λk q=>by cases q));clear ln D');rw [ih] at w;have p':G (Rd X d A N cap b (c+0*a)):=by rw [Hid,jd,v_];exact H1.fresh iv.out
  have u':=T (cY.fresh iv.out);have iL:=r;clear ih G' z';obtain⟨f,t⟩:=zn (W:O);rw [<-t] at w⊢;replace t:=T t;go_loopw [22] (λK wr=> ∃i:O,K=(i:la)/\i<=n/\G (xp wr f 25 1 (Z (some ⟨f,0,none⟩) n n) n ((uz b a n i c).map LV))/\G (Rd wr d A N cap b (c+i*a))/\G (qE [d] W wr)) (λK _=>n-(intOf K).toNat)
  ·exact⟨0,rfl,qp _,w,p',u'⟩
  ·obtain⟨i,rfl,hi,m,o,C⟩:=hrel;by_cases uK:i<n
   ·have hlt3:=j' i n;have hi0:=xi i;have d':a<=kq b (c+i*a):=by
     have e1:(i+1)*a<=n*a:=zk _ uK;rw [ql] at e1;have e2:=B.out;have e3:=iL.out;unfold kq at e2⊢;omega
    obtain⟨ge,gv,cK⟩:=Ws d' hh;have z:=T (UF _ d A N _ _ b (a:V) o);rw [ge,gv,cK] at z;unfold JD at z;have m':=Zr b (c+i*a) a;have D:=nE b a n i c uK;have J':2^a<=2^14:=zZ M hh;have M':kM b (c+i*a) a<65536:=qB m' (qv J' FV);have Q':G (c+i*a+a=c+(i+1)*a):=by rw [Hid,ql,vo]
    generalize kM b (c+i*a) a=x at*;have wx:IntKind.u16.wrap (x:V)=(x:V):=by rw [IntKind.wrap_u16];omega
    have S':G (f≠d):=λe=>qT m o.blk FV f (by simp [K']) e;replace D:=T D;clear d' ge gv cK m' J';go_wp2_with fail;refine zC z ?_;rintro u ⟨I',R⟩;have F:G (Rd u d A N cap b (c+(i+1)*a)):=by rw [Hid,<-Q'.out];exact I'
    have v:=T (R.own m (λk q E=>qT m o.blk FV k q (qy.1 E)));have p:=T (C.then R);obtain⟨ec,ef⟩:=xU v uK;have O': ∃y,((uz b a n i c).map LV)[i]? =J (.int .u16 (y:V)):=by
     have hl:i<U (uz b a n i c):=by have:=v.out.1;simp at this;omega
     exact⟨_,by rw [qD,qX hl];rfl⟩
    obtain⟨y,hy⟩:=O';rw [hy] at ec;have X':G (xp (u.setCell ⟨f,i,none⟩ (.int .u16 (x:V))) f 25 1 (Z f n n) n ((uz b a n (i+1) c).map LV)):=by
     have:=Qn (k:=i) v (.int .u16 (x:V));rw [Hid,<-D.out,JY];exact this
    have U':G (Rd (u.setCell ⟨f,i,none⟩ (.int .u16 (x:V))) d A N cap b (c+(i+1)*a)):=
     F.jZ ((qE.refl [f] u).zh (qy.2 rfl) _) (λe=>S'.out (qy.1 e).symm) (λk q E=>by
      rw [qy.1 E] at q;exact xz v F.own FV f (by simp [K']) q)
    have N9:G (qE [d] W (u.setCell ⟨f,i,none⟩ (.int .u16 (x:V)))):=p.out.IZ (by rw [<-t.out];exact qx _) _;clear I' R m o C hy M';go_wp2_with fail;refine xk ?_;exact⟨i+1,xg,M,X',U',N9⟩
   ·obtain rfl:i=n:=M;have hge:=vc i i;have HOF:G (xp wr W 25 1 (Z f i i) i ((Ka b a i c).map LV)):=by
     have h:=m.out;unfold uz at h;rw [xO,List.replicate_zero,jx] at h;rw [Hid,<-t.out];exact h
    have HRF:G (Rd wr d A N cap b (c+P)):=by rw [Hid,iL.out];exact o.out
    clear m o;go_wp2;go_ret2;exact⟨M,_,_,rfl,HOF,HRF,C⟩
theorem XY (p:O) (h:p<=1000000000):DW (p:V)=(p:V):=SX
theorem Bb (W:I) (base g a x:O) (t:TypeId) (c:S O) (h:_q W base g t a c) (hx:x<=20000) (ih:a<=14) (hn:U c<=20000):
  xG 131 #[mJ g,x] W (ME W base g t a (c++[x])):=by
 obtain⟨cL,ch,ck,ln,p⟩:=h;obtain⟨i0,hi,C,s,D⟩:=qA XM;obtain⟨D',B,A,E,w⟩:=qA BH;replace hi:=T hi;replace C:=T C;replace s:=T s;replace D:=T D;replace B:=T B;replace A:=T A;replace E:=T E;replace w:=T w;have z:2^a<=2^14:=zZ M ih;have Q:1<=2^a:=Nat.one_le_two_pow;have hq:=Pd x a;have OX:x/2^a<=x:=xr _ _;have M':x%2^a<2^a:=xC _ Q;have I':=Mr x a M ih;have N6:DW ((2:V)^a)=((2^a:O):V):=by
  rw [show((2:V)^a)=((2^a:O):V) by rw [j6];rfl];exact XY _ (qv z FV)
 have R:(((2^a:O):V)-1)=((2^a-1:O):V):=M;have qj:G (hiL a (c++[x])=hiL a c++[x/2^a]/\loL a (c++[x])=loL a c++[x%2^a]):=⟨Ot _ _ _,OT _ _ _⟩;have hL:G (U (c++[x])=U c+1):=by rw [Hid,qK];rfl
 generalize z':c++[x]=N' at*
 clear z';have w1:IntKind.u16.wrap ((x%2^a:O):V)=((x%2^a:O):V):=by rw [IntKind.wrap_u16];omega
 obtain⟨f,r⟩: ∃f,f=2^a-1:=⟨_,rfl⟩;rw [<-r] at I' R;generalize x/2^a=N at*
 generalize x%2^a=uK at*
 generalize 2^a=pw at*
 have y:f<=16384:=by rw [r];exact qv (Qd _ _) z
 have N9:DW ((pw:V)-1)=(f:V):=by rw [R];exact XY _ (qv y FV)
 have O':=XY f (qv y FV);generalize U c=n at*
 generalize hiL a c=hs at*
 generalize loL a c=ls at*
 have L:n+1<=maxLen:=SJ;have G':(n+1)*8<=140737488355328:=M;have J':(n+1)*2<=140737488355328:=M;have c0:=p.c0;have c1:=p.c1;have cK:G (Zs base [g] W W.drew):=(Zs.refl _ _ _).fresh (((Dr.refl W).drewN 1).below _);have u:=T p.drew;clear p r y z Q;go_enter func131,ntmps131
 go_wp2_with fail;refine zv 13 (λi=>i' i g=J (a:la)/\i' i ⟨g,1,none⟩=J (Z cL n ch)) AL ⟨c0,c1⟩ (λe=> ?_)
 generalize W.drew=l at*
 refine zq [0,1,2,3,4,5] (a':= ?_) ?_;refine zq [6,7,8,9,10] (a':= ?_) ?_;refine IA 11 rfl AL SQ (λK b=> ?_);go_simp
 (have d:=u.fresh ((qZ _ l).alloc (qx _) (Y #[N] 3)))
 refine b _ _ (⟨d.c0,d.c1⟩) (λe=> ?_);clear b K;try simp only [Act.put,qQ,qY,qV]
 refine QY 12 rfl AL (λK b=> ?_)
 (refine jm _ rfl (.tmp 8) (.tmp 15) 62 rfl base 3 i0 () 1 8 jj hi C s D rfl M cL n ch _ rfl d.oh ((l:O)+1) l 1 1 [e' (N:V)] rfl (zU l _ _) (IB rfl) L G' d.bs ?_;intro A3 H w3 iv cY _;obtain⟨⟨j,k,F⟩,h3,o3⟩:=u.out.WW _ cY iv)
 refine b _ _ (⟨j,k⟩) (λe=> ?_);clear b K;try simp only [Act.put,qQ,qY,qV]
 refine j4 13 rfl AL FV SQ (λK b=> ?_);go_simp;refine b _ _ ?_;clear b K;try simp only [Act.put,qQ,qY,qV]
 refine j4 14 rfl AL FV SQ (λK b=> ?_);go_simp;refine b _ _ ?_;clear b K;try simp only [Act.put,qQ,qY,qV]
 refine j4 15 rfl AL FV SQ (λK b=> ?_);go_simp;refine b _ _ ?_;clear b K;try simp only [Act.put,qQ,qY,qV]
 refine zV AL ?_ _;have o:=T h3;have m':=T (cK.trans o3);clear d iv cY h3 o3 j k F e u cK c0 c1;generalize w3.setCell ⟨g,1,none⟩ (Z A3 (n+1) H)=q at*
 have c0:=o.c0;have c2:=o.c2;have cB:G (Zs base [g] W q.drew):=m'.fresh (((Dr.refl q).drewN 1).below _);have v:=T o.drew;clear o m'
 go_wp2_with fail;refine zv 16 (λi=>i' i g=J (a:la)/\i' i ⟨g,2,none⟩=J (Z ck n ln)) AL ⟨c0,c2⟩ (λe=> ?_)
 generalize q.drew=m at*
 refine zq [0,1,2,3,4,5] (a':= ?_) ?_;refine zq [6,7,8,9,10,11] (a':= ?_) ?_;refine zq [12,13] (a':= ?_) ?_;refine IA 14 rfl AL SQ (λK b=> ?_);go_simp
 (have d:=v.fresh ((qZ _ m).alloc (qx _) (Y #[.int .u16 (uK:V)] 25)))
 refine b _ _ (⟨d.c0,d.c2⟩) (λe=> ?_);clear b K;try simp only [Act.put,qQ,qY,qV]
 refine QY 15 rfl AL (λK b=> ?_)
 (refine jm _ rfl (.tmp 23) (.tmp 33) 212 rfl base 25 D' (.int .u16 0) 1 2 underlying212 B A E w rfl M ck n ln _ rfl d.ol ((m:O)+1) m 1 1 [.int .u16 (uK:V)] rfl (zU m _ _) (IB rfl) L J' d.bs ?_;intro hh P w6 d' iL _;obtain⟨⟨j,k,F⟩,h6,X⟩:=v.lU _ iL d')
 refine b _ _ (⟨j,k⟩) (λe=> ?_);clear b K;try simp only [Act.put,qQ,qY,qV]
 refine j4 16 rfl AL FV SQ (λK b=> ?_);go_simp;refine b _ _ ?_;clear b K;try simp only [Act.put,qQ,qY,qV]
 refine j4 17 rfl AL FV SQ (λK b=> ?_);go_simp;refine b _ _ ?_;clear b K;try simp only [Act.put,qQ,qY,qV]
 refine j4 18 rfl AL FV SQ (λK b=> ?_);go_simp;refine b _ _ ?_;clear b K;try simp only [Act.put,qQ,qY,qV]
 refine zV AL ?_ _;have u':=T h6;have p':=T (cB.trans X);clear d d' iL h6 X j k F e v cB c0 c2;generalize w6.setCell ⟨g,2,none⟩ (Z hh (n+1) P)=w7 at*
 go_wp2_with fail
 go_end0
 refine⟨rfl,⟨A3,H,hh,P, ?_⟩,p'.out⟩;rw [qj.out.1,qj.out.2,hL.out];exact u'.out
theorem _q.Vg {b d:O} {e:S O} (h:_q W base g t d e) (c:b<=base):_q W b g t d e:=by
 obtain⟨f,ch,i,j,a⟩:=h;exact⟨f,_,i,j,a.blk,qi a.oh c,qi a.ol c,a.t1,a.t2,qv c a.bs⟩
theorem _q.jZ {c:I} {b:S O} {l:S O} (h:_q W base g t a b) (j:qE l W c) (n:g∉l) (f: ∀k∈l,k<base):_q c base g t a b:=by
 obtain⟨d,ch,e,i,m⟩:=h;exact⟨d,_,e,i,m.jZ j n f⟩
theorem Rd.ovr {f:I} {N cap at_:O} {A:q'} {b:qn} (h:Rd W a A N cap b at_) (c:Zs base [g] W f) (j:a<base) (l:a≠g) (i: ∀k∈K' A,k<base/\k≠g):Rd f a A N cap b at_:=
 ⟨c.blk h.blk j (λe=>l (qy.1 e)),c.own h.own (λk d=>⟨(i k d).1,λe=>(i k d).2 (qy.1 e)⟩),h.le,h.lim⟩
theorem ID (b:qn) (at_:O):Ju b at_<=8*U b:=by
 unfold Ju;cases a:una b at_ with
 |none=>simp
 |some i=>
  have:=aW b _ _ _ a;unfold kq at this;simp;omega
theorem Ow (b:qn) (at_:O):uM b at_=0\/uM b at_=1:=by
 unfold uM;split
 ·exact .inr rfl
 ·exact .inl rfl
theorem Tp (b:qn) (d w:O) (a:S O) (i:O) (hi:i<U a) (c:O) (e:V) (at_:O) (f:S O):Vi b d w (a.drop i) c e at_ f=
  if uM b at_≠0 then(1,[],at_)
  else if(((c+Ju b at_)*2^w+a[i]:O):V)<=e then(2,[],pq b at_)
  else if d<=(c+Ju b at_)*2^w+a[i] then(8,[],pq b at_)
  else Vi b d w (a.drop (i+1)) (c+Ju b at_) (((c+Ju b at_)*2^w+a[i]:O):V) (pq b at_) (f++[(c+Ju b at_)*2^w+a[i]]):=by
 rw [zK hi];rfl
theorem Wn (h x w:O) (d:h<=10000000000) (c:w<=14) (f:x<2^w):bits .or .i64 ((h*2^w:O):V) (x:V)=((h*2^w+x:O):V)/\h*2^w+x<=200000000000000:=by
 have a:2^w<=2^14:=zZ M c;have b:=xA d a;have e:(2:O)^14=16384:=rfl;rw [e] at b a;refine⟨?_,M⟩;rw [RD _ _ M M,xH h (2^w),<-Nat.two_pow_add_eq_or_of_lt f]
theorem WN (b:qn) (w:O): ∀(n a:O),∀x∈Ka b w n a,x<2^w
 |0,a,x,c=>by cases c
 |n+1,a,x,c=>by
  rcases qL.1 c with rfl|c
  ·exact Zr _ _ _
  ·exact WN b w n _ x c
def IF (W:I) (b:O) (r:V×S O×O) (e:Ending) (a:I):Prop:=
 r' W W a/\((r.1≠0/\e=t' (BA #[mJ none,(),e' r.1]))\/(r.1=0/\ ∃g,e=t' (BA #[mJ (some ⟨g,0,none⟩),(r.2.2:V),()])/\(W:O)<=g/\_q a W g 366 b r.2.1))
theorem nR (p n:O) (Ab:Option Addr) (N c B:O) (b:S AB) (W:I) (hr:E' W B 1 Ab N (b.map B8)) (hB:B<=(W:O)) (hN:N<=1000000000) (h1:1<=n) (hn:n<=p) (hbd:p<=20000):
  xG 256 #[p,n,Z Ab N c] W (IF W (Hv p n) (ai p n b)):=by
 have d':=hr.len;have KR:=T (P7 Ab N c B b W hr hB hN);have KW:=λW=>T (Dk p n W h1 hn hbd);have N9:=p5 h1 hn hbd;obtain⟨R,L⟩: ∃R,R=ai p n b:=⟨_,rfl⟩;rw [<-L];unfold ai at L;generalize Hv p n=j at*
 replace L:=T L;replace d':=T d';clear hr;go_enter func256,ntmps256
 go_wp2_with fail;refine KR.mono ?_;rintro e v ⟨o,A,cap,rfl,Q',hgr,hfA,hB1⟩;have HRD:=T Q';have hh:=T hB1;have HGR:=T hgr;have Y':G (∀k∈K' A,k<(v:O)):=λk m=>(zj Q'.own k m).2;have z':G (o<(v:O)):=Q'.blk.lt;clear KR Q' hgr hfA hB1
 go_wp2_with fail;refine(KW _).out.mono ?_;rintro e w' ⟨rfl,rfl⟩;clear KW;have qj:G (r' v v (v (Y #[j,Z none 0 0,Z none 0 0] 366))):=(qZ _ _).alloc (qx _) _;have iL:G (F' (v (Y #[j,Z none 0 0,Z none 0 0] 366)) v 366 #[j,Z none 0 0,Z none 0 0]):=F'.new _ _ _;have hz0:=iL.cell 0;simp only [qR,qt] at hz0
 go_wp2_with fail;generalize v (Y #[j,Z none 0 0,Z none 0 0] 366)=w2 at*
 have KL:=T (Tk w2 o A N cap b n j 0 (HRD.fresh qj) h1 M N9);have hgg:G ((v:O)<(w2:O)):=iL.lt;refine KL.mono ?_;clear KL;rintro e w3 (⟨m',rfl,hB3⟩|⟨hge,A3,c3,rfl,ho3,hr3,X'⟩)
 ·have r:G (R=(1,[],0)):=by rw [Hid,L.out,qk m']
  have U':G (r' (W:O) W w3):=hh.trans ((qj.mono hh.size|>.mono (qx _)).trans (hB3.mono (qv hh.size qj.size)));clear m' L hB3
  go_wp2_with fail
  go_ret3;rw [r.out];exact⟨U'.out, .inl ⟨FV,rfl⟩⟩
 ·have D:=L.out
  rw [qJ M] at D;rw [jL] at hr3;have HR3:=T hr3;have HO3:=T ho3;have HA3:G (∀k∈K' A3,k<(w3:O)):=λk m=>(zj ho3 k m).2;have U':G (r' (W:O) W w3):=hh.trans ((qj.mono hh.size).trans (X'.below (B:=(W:O)) (λk m=>by rw [qy.1 m];exact HGR) (qv hh.size qj.size)))
  obtain⟨g,hg⟩: ∃g,g=(v:O):=⟨_,rfl⟩;rw [<-hg] at iL hgg Y' z'⊢;have iv:G ((W:O)<=g):=by rw [Hid,hg];exact hh.size
  obtain⟨base,D'⟩: ∃base,base=(w3:O):=⟨_,rfl⟩;have HBS:G ((w2:O)<=base):=by rw [Hid,D'];exact X'.size
  have ck:G (g<base):=qB hgg HBS.out;have HGRB:G (o<base):=Nat.lt_trans z' ck.out;have HFB:G (∀k∈K' A,k<base/\k≠g):=λk m=>⟨Nat.lt_trans (Y'.out k m) ck,vV (Y'.out k m)⟩;have M':G (o≠g):=vV z'.out;have HP3:G (_q w3 base g 366 j []):=⟨none,0,none,0,X'.blk iL (λe=>M'.out (qy.1 e).symm),qP _ _ _ _,qP _ _ _ _,FV,FV,by rw [D'];exact qx _⟩
  rw [<-D'] at HA3;have HXS:=T (WN b j n 0);have N':=Ut b j n 0;generalize Ka b j n 0=ls at*
  obtain⟨F,hRG⟩: ∃F,F=Vi b p j ls 0 (-1) (n*j) []:=⟨_,rfl⟩;rw [<-hRG] at D;have HG0:G (Vi b p j (ls.drop 0) 0 (-1) (n*j) []=F):=hRG.symm;replace D:=T D;replace N':=T N';clear hr3 ho3 X' hg D' hh qj iL hgg z' Y' HRD hRG hge L
  go_wp2_with fail;go_loopw [13,14,47] (λv13 v14 v47 wr=> ∃(i cY at_:O) (p':V) (t:S O),v13=(cY:la)/\v14=(p':la)/\v47=(i:la)/\i<=n/\cY<=20000/\U t<=i/\G (Vi b p j (ls.drop i) cY p' at_ t=F)/\G (Rd wr o A N cap b at_)/\G (_q wr base g 366 j t)/\G (xp wr w2 25 1 (Z A3 n c3) n (ls.map LV))/\G (r' (W:O) W wr)) (λ_ _ v47 _=>n-(intOf v47).toNat)
  case atStart=>exact⟨0,0,n*j,-1,[],rfl,rfl,rfl,qp _,qp _,qx _,HG0,HR3,HP3,HO3,U'⟩
  case round=>
   clear HG0 HR3 HP3 HO3 U';obtain⟨i,cY,at_,p',t,rfl,rfl,rfl,hi,hhi,hol,HG,ln,HP,cK,w⟩:=hrel;by_cases m':i<n
   ·have hlt':(i:V)<(n:V):=M
    have hi0:(0:V)<=(i:V):=M;have hil:i<U ls:=by rw [N'.out];exact m'
    obtain⟨ad,u,rfl,-,hu,hcell⟩:=(E'.zY cK).at_ m';rw [qD,qX hil] at hu;have G':=HXS.out _ (zx hil);have ih:=HG.out;rw [Tp b p j ls i hil] at ih;have KU:=T (tf wr o A N cap at_ b ln);have hud:=ID b at_;rw [d'.out] at hud;generalize ls[i]=x at*
    have hu2:u= .int .u16 (x:V):=(zy hu).symm;subst hu2;generalize Ju b at_=d at*
    have her01:=Ow b at_;generalize uM b at_=er at*
    replace her01:=T her01;generalize pq b at_=Z' at*
    unfold JD at KU;obtain⟨h2,OX⟩: ∃h2,h2=cY+d:=⟨_,rfl⟩;rw [<-OX] at ih;have hsum:(cY:V)+(d:V)=(h2:V):=by rw [OX];exact(xe _ _).symm
    have hh2b:h2<=10000000000:=M;obtain⟨hor,hidb⟩:=Wn h2 x j hh2b N9 G';have P':h2*2^j<=h2*2^j+x:=Jk _ _;have hsh:(h2:V)*2^j=((h2*2^j:O):V):=by rw [zB,j6];rfl
    have hh2p:h2<=h2*2^j:=Xp _ (Nat.pow_pos M);obtain⟨s,hid2⟩: ∃s,s=h2*2^j+x:=⟨_,rfl⟩;rw [<-hid2] at ih hor hidb P';generalize h2*2^j=hp at*
    have hpb:hp<=200000000000000:=qv P' hidb;have hidh:h2<=s:=qv hh2p P';have wx:DW (x:V)=(x:V):=XY x (qv (zr G') (qv (zZ M N9) FV));replace ih:=T ih;replace OX:=T OX;replace hid2:=T hid2;replace G':=T G';clear hu HG hud P' hh2p;by_cases he:er=0
    ·subst he
     have E:=ih.out;rw [qJ FV] at E;replace E:=T E;clear ih
     go_wp2_with fail;refine KU.mono ?_;rintro e f ⟨rfl,N6,uK⟩;have cL:=T N6;have z:=T (HP.jZ uK (λe=>M'.out (qy.1 e).symm) (λk m=>by rw [qy.1 m];exact HGRB))
     have HO4:=T (uK.own cK (λk m hk'=>qT cK ln.blk FV k m (qy.1 hk')));have q:=T (w.trans (uK.below (B:=(W:O)) (λk m=>by rw [qy.1 m];exact HGR) w.size))
     obtain⟨_,_,_,_,O'⟩:=z.out;have z0:=O'.c0;clear KU N6 uK O' ln HP cK w;by_cases hlow:(s:V)<=p'
     ·have P:G (F=(2,[],Z')):=by rw [Hid,<-E.out,qk hlow]
      have r:G (R=(2,[],0)):=by rw [Hid,D.out,P.out];rfl
      clear E
      go_wp2_with fail
      go_ret3;rw [r.out];exact⟨q.out, .inl ⟨FV,rfl⟩⟩
     ·by_cases hhb:p<=s
      ·have P:G (F=(8,[],Z')):=by rw [Hid,<-E.out,qJ hlow,qk hhb]
       have r:G (R=(8,[],0)):=by rw [Hid,D.out,P.out];rfl
       have hhb':(p:V)<=(s:V):=M;clear E
       go_wp2_with fail
       go_ret3;rw [r.out];exact⟨q.out, .inl ⟨FV,rfl⟩⟩
      ·have HG4:G (Vi b p j (ls.drop (i+1)) h2 (s:V) Z' (t++[s])=F):=by rw [Hid,<-E.out,qJ hlow,qJ hhb]
       have hhb': ¬(p:V)<=(s:V):=M;have KA:=T (Bb f base g j s 366 t z M N9 M);unfold ME at KA;have hol2:G (U (t++[s])<=i+1):=by rw [Hid,qK,zJ];omega
       clear E
       go_wp2_with fail;refine KA.mono ?_;rintro e w5 ⟨rfl,hp5,I'⟩;have X:=T hp5;have HR5:=T (cL.ovr I' HGRB M' HFB);have HO5:=T (I'.own HO4 (λk m=>⟨HA3.out k m,λe=>by
        obtain⟨_,_,_,_,O'⟩:=z.out;exact qT HO4 O'.blk FV k m (qy.1 e)⟩))
       have Q:=T (q.trans (I'.below (B:=(W:O)) q.size (qv iv (zr ck)) (λk m=>by rw [qy.1 m];exact iv)))
       have hh20:h2<=20000:=M;clear KA hp5 I' cL z HO4 q hsum hor hsh wx
       go_wp2_with fail;go_roundw
       case rel=>exact⟨i+1,h2,Z',(s:V),t++[s],by first|rfl|simp,by first|rfl|simp,by first|rfl|simp,M,hh20,hol2.out,HG4,HR5,X,HO5,Q⟩
       case measure=>simp [intOf];omega
    ·have P:G (F=(1,[],at_)):=by rw [Hid,<-ih.out,qk he]
     have r:G (R=(1,[],0)):=by rw [Hid,D.out,P.out];rfl
     obtain rfl:er=1:=her01.resolve_left he;clear ih he
     go_wp2_with fail;refine KU.mono ?_;rintro e f ⟨rfl,N6,uK⟩;have q:=T (w.trans (uK.below (B:=(W:O)) (λk m=>by rw [qy.1 m];exact HGR) w.size))
     clear KU N6 uK ln HP cK w
     go_wp2_with fail
     go_ret3;rw [r.out];exact⟨q.out, .inl ⟨FV,rfl⟩⟩
   ·obtain rfl:i=n:=M
    have hge: ¬(i:V)<(i:V):=M;have P:G (F=(0,t,at_)):=by rw [Hid,<-HG.out,zD (by rw [N'.out];exact qx _)];rfl
    have hR3:=D.out;rw [P.out] at hR3;have K:G (R=if kM b at_ (kq b at_%8)≠0 then(2,[],0) else(0,t,U b-kq b at_/8)):=hR3
    rw [d'.out] at K;have S':=T (XV wr o A N cap at_ b ln);have hlN:kq b at_<=8*N:=by unfold kq;rw [d'.out];omega
    have hlN2:kq b at_<=8000000000:=M;have hmod:(kq b at_:V).tmod 8=((kq b at_%8:O):V):=FC _ 8;have hdiv:(kq b at_:V).tdiv 8=((kq b at_/8:O):V):=Y_ _ 8;have hdN:kq b at_/8<=N:=M;have hsub:(N:V)-((kq b at_/8:O):V)=((N-kq b at_/8:O):V):=(Int.ofNat_sub hdN).symm;have hfin:N-kq b at_/8<=1000000000:=qv (Qd _ _) hN;have hr8:kq b at_%8<8:=xC _ M;have KG:G (∀f,Rd f o A N cap b at_-> ∀a:O,a=kq b at_%8->xG 274 #[mJ o,a] f (JD f o A N cap b (BA #[.int .u64 (kM b at_ a),()]) (at_+a))):=λf h a C=>by
     have hle:a<=kq b at_:=by rw [C];exact Nat.mod_le _ _
     obtain⟨ge,gv,ga⟩:=Ws hle M;have:=UF f o A N cap at_ b (a:V) h;rw [ge,gv,ga] at this;exact this
    have KL0:G (∀f,Rd f o A N cap b at_->xG 273 #[mJ o] f λe cB=>e=t' (e' (kq b at_))/\Dr f cB):=λf h=>XV f o A N cap at_ b h;have KL2:G (∀f a,a=kq b at_%8->Rd f o A N cap b (at_+a)->xG 273 #[mJ o] f λe cB=>e=t' ((kq b at_-a:O):V)/\Dr f cB):=λf a C h=>by
     have:=XV f o A N cap (at_+a) b h;have e:kq b (at_+a)=kq b at_-a:=by unfold kq;omega
     rwa [e] at this
    have u': ∀a,a=kq b at_%8->((kq b at_-a:O):V).tdiv 8=((kq b at_/8:O):V):=λa C=>by
     refine(show((kq b at_-a:O):V).tdiv 8=(((kq b at_-a)/8:O):V) from Y_ _ 8).trans ?_
     congr 1;omega
    replace u':=T u';obtain⟨a,C⟩: ∃a,a=kq b at_%8:=⟨_,rfl⟩;rw [<-C] at K hmod hr8;have KG1:=λf h=>T (KG.out f h a C);have KL3:=λf h=>T (KL2.out f a C h);have hdv2:=u'.out a C;have hlr:kq b at_-a<=8000000000:=qv (Qd _ _) hlN2;generalize kq b at_-a=lf2 at*
    generalize hlf8:kq b at_/8=q8 at*
    generalize kq b at_=lf at*
    have hz:G (a=0->kM b at_ a=0):=λh=>by rw [h];rfl
    generalize kM b at_ a=y at*
    replace C:=T C;replace hlf8:=T hlf8;have J':=HP;clear KG KL2 u' HG hR3 hlN HP cK D;by_cases hr0:a=0
    focus
     have hy:=hz.out hr0
     subst hr0;have r:G (R=(0,t,N-q8)):=by rw [Hid,K,qJ (by simpa using hy)]
     clear K hz KG1 KL3 hdv2 hlr hr8 hy
    rotate_left
    focus have hr1:(0:V)<(a:V):=M
    rotate_left
    all_goals
     go_wp2_with fail;refine S'.mono ?_;rintro e f ⟨rfl,H⟩;have cL:=T (ln.dr H);have z:=T (J'.jZ (Zp (l:=[]) H) s8 s8)
     have q:=T (w.trans (H.below (W:O)))
    ·have KL4:G (xG 273 #[mJ o] f λe cB=>e=t' ((lf:O):V)/\Dr f cB):=KL0.out f cL.out;clear S' H ln w J'
     go_wp2_with fail;refine KL4.mono ?_;rintro e w5 ⟨rfl,hD5⟩;have X:=T (z.jZ (Zp (l:=[]) hD5) s8 s8)
     have Q:=T (q.trans (hD5.below (W:O)));clear KL4 hD5 z q
     go_wp2_with fail
     go_ret3;rw [r.out];exact⟨Q.out, .inr ⟨rfl,g,by first|rfl|simp,iv.out,X.out.Vg (qv iv (zr ck))⟩⟩
    ·have KG4:=KG1 f cL.out;unfold JD at KG4;clear S' H ln w J' KG1 hz
     go_wp2_with fail;refine KG4.mono ?_;rintro e w5 ⟨rfl,hr5,hm5⟩;have HR5:=T hr5;have X:=T (z.jZ hm5 (λe=>M'.out (qy.1 e).symm) (λk m=>by rw [qy.1 m];exact HGRB))
     have Q:=T (q.trans (hm5.below (B:=(W:O)) (λk m=>by rw [qy.1 m];exact HGR) q.size))
     have KL5:=KL3 w5 HR5.out;clear KG4 hr5 hm5 cL z q KL3;by_cases hy:y=0
     ·subst hy
      have r:G (R=(0,t,N-q8)):=by rw [Hid,K,qJ s8]
      clear K
      go_wp2_with fail;refine KL5.mono ?_;rintro e w6 ⟨rfl,hD6⟩;have HP6:=T (X.jZ (Zp (l:=[]) hD6) s8 s8)
      have HB6:=T (Q.trans (hD6.below (W:O)));clear KL5 hD6 X Q
      go_wp2_with fail
      go_ret3;rw [r.out];exact⟨HB6.out, .inr ⟨rfl,g,by first|rfl|simp,iv.out,HP6.out.Vg (qv iv (zr ck))⟩⟩
     ·have r:G (R=(2,[],0)):=by rw [Hid,K,qk hy]
      have hy2:((y:V)==0)=false:=by rw [zE];omega
      clear K
      go_wp2_with fail
      go_ret3;rw [r.out];exact⟨Q.out, .inl ⟨FV,rfl⟩⟩
theorem EO (b:qn) (d w:O): ∀(g:S O) (c:O) (f:V) (at_:O) (a:S O),(∀x∈a,x<d)->(∀x∈(Vi b d w g c f at_ a).2.1,x<d)/\(Vi b d w g c f at_ a).2.1.length<=U a+U g
 |[],c,f,at_,a,h=>⟨h,by show U a<=_;omega⟩
 |x::t,c,f,at_,a,h=>by
  unfold Vi;split
  ·exact⟨s8,s8⟩
  ·split
   ·exact⟨s8,s8⟩
   ·split
    ·exact⟨s8,s8⟩
    ·rename_i h3
     have:=EO b d w t (c+Ju b at_) (((c+Ju b at_)*2^w+x:O):V) (pq b at_) (a++[(c+Ju b at_)*2^w+x]) (λy e=>by
      rcases zt.1 e with e|e
      ·exact h y e
      ·rw [qy.1 e];omega)
     refine⟨this.1, ?_⟩;have h2:=this.2;rw [qK,zJ] at h2;rw [qf];omega
theorem Ig (a n:O) (b:qn):(∀x∈(ai a n b).2.1,x<a)/\(ai a n b).2.1.length<=n:=by
 unfold ai;split
 ·exact⟨s8,s8⟩
 ·have h:=EO b a (Hv a n) (Ka b (Hv a n) n 0) 0 (-1) (n*Hv a n) [] s8;rw [Ut] at h;dsimp only;split
  ·exact⟨s8,s8⟩
  ·split
   ·exact⟨s8,s8⟩
   ·exact⟨h.1,by have:=h.2;simpa using this⟩
theorem Ei (a n:O) (b:qn):(ai a n b).2.2<=U b:=by
 unfold ai;split
 ·exact qp _
 ·dsimp only;split
  ·exact qp _
  ·split
   ·exact qp _
   ·exact Qd _ _
def iu (W:I) (r:V×S O×O) (e:Ending) (a:I):Prop:=
 r' W W a/\((r.1≠0/\e=t' (BA #[mJ none,(),e' r.1]))\/(r.1=0/\ ∃g b,e=t' (BA #[mJ (some ⟨g,0,none⟩),(r.2.2:V),()])/\(W:O)<=g/\b<=14/\_q a W g 366 b r.2.1/\(∀x∈r.2.1,x<=20000)/\U r.2.1<=20000))
theorem TP (a:O) (m:q') (N c B:O) (b:qn) (W:I) (y:E' W B 1 m N (b.map B8)) (cL:B<=(W:O)) (ih:N<=1000000000) (N6:N<=c) (X:a<=20000):
  xG 232 #[a,Z m N c] W (iu W (B6 a b)):=by
 obtain⟨i0,hi,OX,P,O'⟩:=qA xR;have M':=T (λi (h:i<=N)=>jI _ 5 _ 1 qu hi P m N c i .i64 h);have cY:=y.len;have KN:=T (Qk m N c B b W y cL ih);obtain⟨R,j⟩:=zn (B6 a b);rw [<-j];unfold B6 at j;rw [qJ M] at j;dsimp only at j;rw [zc] at j;have hm:=vX b (a:V) ⟨0,0⟩ M;have v:=λr g A cap (h:Lr r g A N cap b ⟨0,0⟩)=>T (yK r g A N _ b _ (a:V) h M);replace v:=T v;generalize jU b (a:V) ⟨0,0⟩=ic at*;obtain⟨n,c0⟩:=ic;dsimp only at j hm;have qj:n<=a:=M;clear hm;have S': ¬(a:V)<0:=M;have X': ¬(20000:V)<(a:V):=M;replace j:=T j;replace cY:=T cY;have H:=T y;clear y hi OX P O';go_in;go_wp2_with fail;refine KN.mono ?_;rintro e w1 ⟨C,A,cap,rfl,hc,m',N9,cB⟩;have ln:=T cB;have z':=T m';have uK:=v _ C A _ hc;unfold jS at uK;clear hc m' N9 cB;go_wp2_with fail;refine zC uK ?_;rintro l ⟨u,iL⟩;have F:=T u;have f:=T (ln.trans (iL.below (λk hk=>by rw [qy.1 hk];exact z') ln.size));have w:=T (jg l C A N _ b _ u);have p:=λr (h:Lr r C A N cap b c0)=>T (JJ r C A N _ b _ h);replace p:=T p;have Q:=T u.le;clear uK u iL;by_cases o:c0.err=0
 ·have d:=j.out;rw [qJ (by simpa using o)] at d;rw [o] at w;by_cases p':n=0
  focus
   subst p';rw [qk rfl] at d;replace d:=T d;have d':G (r' l l (l.alloc (Y #[(),z8,z8] 366))):=j1 _;have L:=p _ (F.fresh d');have cK:G (_q (l.alloc (Y #[(),z8,z8] 366)) l l 366 0 []):=⟨_,0,_,0,F'.new _ _ _,qP _ _ _ _,qP _ _ _ _,FV,FV,s8⟩
  rotate_left
  focus
   rw [qJ p'] at d;have Z':((n:V)==0)=false:=by rw [zE];omega
   have L:=p l F.out;have hcut:=M' _ Q.out;have H2:=(H.below (f.mono cL)).VC Q N6;have D':=T (nR a n _ _ (c-c0.at_) B _ l H2 (qv cL f.size) (qv (Qd _ _) ih) M qj X);have q:=Ig a n (b.drop c0.at_);have G':=p5 (show 1<=n by omega) qj X;have J':(ai a n (b.drop c0.at_)).2.2<=1000000000:=qv (Ei _ _ _) (by rw [qI];have:=cY.out;omega);have U':=qv Q ih;generalize Hv a n=wd,ai a n (b.drop c0.at_)=N' at*;obtain⟨z,I',Uj⟩:=N';dsimp only at d q J';replace d:=T d;replace q:=T q;clear H2;generalize u':xo m c c0.at_ 1=A' at*
  rotate_left
  all_goals
   go_wp2_with fail;refine Ω w ?_;go_wp2_with fail;refine Ω L ?_;go_wp2_with fail
  ·go_ret3;rw [d.out];exact⟨f.trans (d'.mono f.size), .inr ⟨rfl,l,0,rfl,f.size,M,cK.out.Vg f.size,s8,s8⟩⟩
  ·refine D'.mono ?_;rintro e w3 ⟨t,⟨hh,rfl⟩|⟨h0,g,rfl,hg,hp⟩⟩
   ·have s:=T (d.out.trans (qk hh));have D:z≠0:=hh;have Q':(z==0)=false:=by simpa using D
    have K:=T D;have iv:=T (f.trans (t.mono f.size));dsimp only;clear hh D t;go_wp2;go_ret3;rw [s.out];exact⟨iv, .inl ⟨K,rfl⟩⟩
   ·obtain rfl:z=0:=h0;have s:=T (d.out.trans (qJ FV));have iv:=T (f.trans (t.mono f.size));have P':=p _ (F.fresh t);have cK:=T (hp.Vg f.size);have HG:=T (qv f.size hg);dsimp only;clear t hp hg;go_wp2_with fail;refine Ω P' ?_;go_wp2;go_ret3;rw [s.out];exact⟨iv, .inr ⟨rfl,g,wd,xg,HG.out,G',cK.out,λx hx=>by have:=q.out.1 x hx;omega,qv q.out.2 (qv qj X)⟩⟩
 ·have s:=T (j.out.trans (qk o));have Y':(c0.err==0)=false:=by simpa using o
  have K:=T o;generalize hE:c0.err=E at*;clear o;go_wp2_with fail;refine Ω w ?_;go_wp2;go_ret3;rw [s.out];exact⟨f, .inl ⟨K,rfl⟩⟩
theorem kT (b:qn) (f:O) (c:Cu) (a:S O):Q5 b (f+1) c a=if c.err≠0 then(a,c) else Q5 b f (jU b 2000 c).2 (a++[(jU b 2000 c).1]):=rfl
theorem EI (b:qn) (f:O) (c:Cu) (a:S O) (h:c.err≠0):Q5 b f c a=(a,c):=by cases f with|zero=>rfl|succ f=>rw [kT,qk h]
theorem UW (b:qn) (size n:O) (zs:S O) (i:O) (hi:i<U zs) (c:Cu) (a:S qn):yr b size n (zs.drop i) c a=
  if(jW b zs[i] c).2.err≠0 then((jW b zs[i] c).2.err,[],0)
  else if(QV (jW b zs[i] c).1 (min size n) true ⟨0,0⟩ a).1≠0 then((QV (jW b zs[i] c).1 (min size n) true ⟨0,0⟩ a).1,[],0)
  else yr b size (n-size) (zs.drop (i+1)) (jW b zs[i] c).2 (QV (jW b zs[i] c).1 (min size n) true ⟨0,0⟩ a).2:=by
 rw [zK hi];rfl
theorem YF (b:qn) (size n:O) (c:Cu) (a:S qn):yr b size n [] c a=if c.err≠0 then(c.err,[],0) else(0,a,c.at_):=by
 unfold yr;rfl
theorem kW (b:qn): ∀(n:O) (first:Bool) (c:Cu) (a:S qn),(QV b n first c a).2.length<=U a+n
 |0,first,c,a=>qx _
 |n+1,first,c,a=>by
  rw [ue];split
  ·dsimp only;omega
  ·have:=kW b n false (JE b (a.getLastD []) first c).2 (a++[(JE b (a.getLastD []) first c).1])
   rw [qK,zJ] at this;omega
theorem kS (b:qn): ∀(n:O) (first:Bool) (c:Cu) (d:S qn),px d->px (QV b n first c d).2
 |0,first,c,d,h=>h
 |n+1,first,c,d,h=>by
  rw [ue];split
  ·exact h
  ·rename_i e
   refine kS b n false _ _ (λs a=> ?_);rcases zt.1 a with a|a
   ·exact h s a
   ·rw [qy] at a
    subst a;have:=Dp b (d.getLastD []) _ c (by simpa using e)
    omega
theorem Ba:G (px []):=λs a=>by cases a
theorem Be (b:qn) (k:O) (c:Cu):(jW b k c).1.length<=U b:=by
 unfold jW;dsimp only;split
 ·exact qp _
 ·rw [qh,qI];omega
theorem Lr.low {e:I} {N cap:O} {A:q'} {b:qn} {c:Cu} (h:Lr W d A N cap b c) (f:r' B W e) (j:d<B) (g: ∀k∈K' A,k<B):Lr e d A N cap b c:=
 ⟨h.blk.below f j,zI h.own λa i=>f.block _ (g _ (ZO.2 (by rw [i];rfl))),h.le,h.lim⟩
theorem qE.low {l:S O} {cY w w':I} (h:qE l cY w) (a:r' cY w w'):qE l cY w':=⟨a.os.trans h.os,a.tape.trans h.tape,a.output.trans h.output,qv h.size a.size,λk b c=>(a.block k b).trans (h.block k b c)⟩
def Wm (W:I) (size:V) (r:V×S qn×O) (e:Ending) (a:I):Prop:=
 r' W W a/\((r.1≠0/\e=t' (BA #[mJ none,(),e' r.1]))\/(r.1=0/\ ∃g b,e=t' (BA #[mJ (some ⟨g,0,none⟩),(r.2.2:V),()])/\(W:O)<=g/\_n a W g size r.2.1 b/\U r.2.1<=2000000/\px r.2.1))
theorem _n.Vg {base b g:O} {size:V} {e:S qn} (h:_n W base g size e d) (c:b<=base):_n W b g size e d:=by
 obtain⟨j,i,f,ch,k,a⟩:=h;exact⟨j,i,f,_,k,a.blk,qi a.ot c,qi a.oh c,a.ap,qv c a.bs,qv c a.gb⟩
theorem Co (size:V) (e:q') (N c:O) (b:qn) (W:I) (a:size<1\/64<size):
  xG 197 #[size,Z e N c] W (Wm W size (ab size b)):=by
 have d:ab size b=(13,[],0):=qk a;rw [d];rcases a with h|h
 ·go_wp2;go_ret3;exact⟨qZ _ _, .inl ⟨FV,rfl⟩⟩
 ·have h0: ¬size<1:=M;go_wp2;go_ret3;exact⟨qZ _ _, .inl ⟨FV,rfl⟩⟩
theorem El (size:O) (Ab:q') (N c B:O) (b:qn) (W:I) (hr:E' W B 1 Ab N (b.map B8)) (hB:B<=(W:O)) (hN:N<=1000000000) (hs1:1<=size) (hs2:size<=64):
  xG 197 #[size,Z Ab N c] W (Wm W size (ab size b)):=by
 obtain⟨i0,hi,hz0,hz1,hz2⟩:=xt XM;have KN:=T (Qk Ab N c B b W hr hB hN);obtain⟨R,cK⟩:=zn (ab size b);rw [<-cK];unfold ab at cK;rw [qJ M] at cK;dsimp only at cK;rw [zc] at cK;have hm:=vX b 1048576 ⟨0,0⟩ M;have Q:=λW' g A cap (h:Lr W' g A N cap b ⟨0,0⟩)=>T (yK W' g A N cap b ⟨0,0⟩ 1048576 h M);replace Q:=T Q;generalize jU b 1048576 ⟨0,0⟩=ic at*;obtain⟨n,c0⟩:=ic;dsimp only at cK hm;have hn:n<=1048576:=M;clear hm;obtain⟨q,hq⟩:=zn ((n+size-1)/size);rw [<-hq] at cK;have N6: ∀j,j*size<n↔j<q:=λj=>by
  rw [hq];constructor
  ·intro h;have:(j+1)*size<=n+size-1:=by rw [ql];omega
   exact(yJ M).2 this
  ·intro h;have:(j+1)*size<=n+size-1:=(yJ M).1 h;rw [ql] at this;omega
 have hqn:q<=n:=by
  rw [hq];rcases zA n with h|h
  ·subst h;rw [jL,xW M];omega
  ·apply Nat.div_le_of_le_mul;obtain⟨e,rfl⟩: ∃e,size=e+1:=⟨size-1,M⟩;obtain⟨f,rfl⟩: ∃f,n=f+1:=⟨n-1,M⟩;rw [Nat.add_mul,Nat.mul_add];omega
 replace N6:=T N6;have hR0:G (yr b size n (Q5 b q c0 []).1 (Q5 b q c0 []).2 []=R):=cK.symm;have hs1': ¬(size:V)<1:=M;have hs2': ¬(64:V)<(size:V):=M;clear hq cK;go_in;go_wp2_with fail;refine KN.mono ?_;rintro e w1 ⟨v,A,cap,rfl,hc,hgc,hfA,hB1⟩;have r:=T hc;have HB1:=T hB1;have ck:=T hgc;have HFA:=T hfA;have KI1:=Q w1 v A cap hc;unfold jS at KI1;clear hc hgc hfA hB1;go_wp2_with fail;refine zC KI1 ?_;rintro w2 ⟨hc2,N9⟩;have cB:=T hc2;have d':=T (HB1.trans (N9.below (B:=(W:O)) (λk a=>by rw [qy.1 a];exact ck) HB1.size));clear KI1 hc2 N9;go_wp2;go_loopw [9,10] (λv9 v10 wr=> ∃(j p c3:O) (A3:q') (F:Cu) (s:S O),v9=Z A3 j c3/\v10=(p:la)/\j<=q/\G (p=j*size)/\p<=n+64/\G (U s=j)/\G (Q5 b (q-j) F s=Q5 b q c0 [])/\G (Lr wr v A N cap b F)/\G (xp wr W 3 1 (Z A3 j c3) j (s.map NV))/\G (r' W W wr)) (λ_ v10 _=>(n+64)-(intOf v10).toNat)
 ·exact⟨0,0,0,none,c0,[],rfl,rfl,qp _,y8,M,rfl,rfl,cB,qP _ _ _ _,d'⟩
 ·obtain⟨j,p,c3,A3,F,s,rfl,rfl,hj,HP,hp,HL,HG,r,P,w⟩:=hrel;have t:=T (jg wr v A N cap b F r);by_cases hlt:p<n
  focus
   have hlt':=j' p n;have hjq:j<q:=(N6 j).1 (HP.out▸hlt);obtain⟨f,hf⟩: ∃f,q-j=f+1:=⟨q-j-1,M⟩;have hf2:q-(j+1)=f:=M;have N':=HG.out;rw [hf,kT] at N';by_cases m:F.err=0
   ·rw [qJ (by simpa using m)] at N';rw [m] at t;have Q:=T (yK wr v A N cap b F 2000 r M);generalize jU b 2000 F=ic at*;obtain⟨x,o⟩:=ic;dsimp only at N';unfold jS at Q;dsimp only at Q;have HG3:G (Q5 b (q-(j+1)) o (s++[x])=Q5 b q c0 []):=by rw [hf2];exact N'
    have hb1:j+1<=maxLen:=SJ;have hb2:(j+1)*8<=140737488355328:=M;have hps:(p:V)+(size:V)<9223372036854775808:=M;have hol:G (U (s++[x])=j+1):=by rw [Hid,qK,HL.out];rfl
    have X:G (p+size=(j+1)*size):=by rw [Hid,ql,HP.out]
    clear HG N' hf hf2;go_wp2_with fail;refine Ω t ?_;go_wp2_with fail;refine zC Q ?_;rintro w2 ⟨hc2,N9⟩;have cB:=T hc2;have HO2:=T (N9.own P (λk a O'=>qT P r.blk FV k a (qy.1 O')));have d':=T (w.trans (N9.below (B:=(W:O)) (λk a=>by rw [qy.1 a];exact ck) w.size));clear hc2 N9 r P w;go_wp2_with (at_builtin;refine qF _ rfl (.tmp 39) (.tmp 42) 62 rfl W 3 i0 () 1 8 jj hi hz0 hz1 hz2 rfl M A3 j c3 _ rfl (HO2.alloc _) ((w2:O)+1) w2 1 1 [e' (x:V)] rfl (zU _ _ _) (IB rfl) hb1 hb2 (qv d'.size s8) ?_;intro A4 c4 ln uK hg4 _;have k4:jO [3] W w2 ln:=((jO.refl _ _ _).alloc d'.size (Y #[x] 3)).grown (HO2.alloc (Y #[x] 3)) s8 (qx _) (qv d'.size s8) hg4;have J':G (Lr ln v A N cap b o):=⟨k4.blk cB.blk FV,k4.own cB.own FV,cB.le,cB.lim⟩;have HB4:=T (d'.trans k4.below);replace uK:=T uK;clear hg4 k4);have z':G (xp ln W 3 1 (Z A4 (j+1) c4) (j+1) ((s++[x]).map NV)):=by rw [Hid,qg];exact uK.out
    refine xk ?_;exact⟨j+1,p+size,c4,A4,o,s++[x],xg,xg,M,X,M,hol,HG3,J',z',HB4⟩
   focus
    have OX:G (yr b size n s F []=R):=by rw [Hid,<-hR0.out,<-HG.out,hf,EI _ _ _ _ (by simpa using m)]
    have he2:(F.err==0)=false:=by simpa using m
    generalize ih:F.err=E at*;replace ih:=T ih;clear hf hf2 N' m;go_wp2_with fail;refine Ω t ?_
  rotate_left
  focus
   have hge:=vc p n;have hjq:j=q:=by
    have: ¬j<q:=λh=>hlt (HP.out▸(N6 j).2 h);omega
   have OX:G (yr b size n s F []=R):=by
    have h:=HG.out;rw [hjq,xO] at h;rw [Hid,<-hR0.out,<-h];rfl
  all_goals
   go_wp2_with fail;obtain⟨cY,hV⟩:=zn wr;subst hV;have hgd:G (v<(cY:O)):=r.blk.lt;have hfd:G (∀k∈K' A,k<(cY:O)):=λk a=>(zj r.own k a).2;have HOV:=P;have hne:=T (qT P r.blk FV);have HD0:G (_n (cY (Y #[z8,size,z8] 343)) cY cY (size:V) [] 0):=⟨none,0,none,0,[],F'.new _ _ _,qP _ _ _ _,qP _ _ _ _,by simp [K'],s8,qx _⟩;have HC0:G (Lr (cY (Y #[z8,size,z8] 343)) v A N cap b F):=r.fresh (j1 _);have U':G (qE [v] cY (cY (Y #[z8,size,z8] 343))):=(qE.refl _ _).alloc _;clear r P HG HP;generalize cY (Y #[z8,size,z8] 343)=w3 at*;go_loopw [49] (λG' wq=> ∃(i C p:O) (o:Cu) (ts:S qn),G'=(i:la)/\i<=j/\C<=i/\G (p=i*size)/\U ts<=p/\p<=n+64/\G (px ts)/\G (yr b size (n-p) (s.drop i) o ts=R)/\G (Lr wq v A N cap b o)/\G (_n wq cY cY (size:V) ts C)/\G (qE [v] cY wq)) (λG' _=>j-(intOf G').toNat)
   ·exact⟨0,0,0,F,[],rfl,qp _,qp _,(jd _).symm,qp _,qp _,Ba,OX,HC0,HD0,U'⟩
   ·obtain⟨i,C,l,o,ts,rfl,hi,hnh,X,hts,hp2,u',qj,r,HD,cL⟩:=hrel;have S':G (r' W W wr):=w.trans (cL.below (λk a=>by rw [qy.1 a];exact ck) w.size);by_cases iv:i<j
    focus
     have hlt3:=j' i j;have hi0:=xi i;have P':i<U s:=by rw [HL.out];exact iv
     obtain⟨ad,u,rfl,-,hu,hcell⟩:=(E'.zY (cL.own HOV (λk a O'=>hne.out k a (qy.1 O')))).at_ iv;rw [qD,qX P'] at hu;have d:=qj.out;rw [UW b size _ s i P'] at d;have hpn:l<n:=by rw [X.out];exact(N6 i).2 (qB iv hj)
     have KT:=T (Qs wr v A N cap b o (s[i]:O) r);have Y':=Be b s[i] o;generalize s[i]=z at*;have hu2:u=(z:la):=(zy hu).symm;subst hu2;generalize jW b (z:V) o=tc at*;obtain⟨K,H⟩:=tc;dsimp only at d Y';unfold X1 at KT;have hys:U K<=1000000000:=by rw [r.len] at Y';omega
     obtain⟨k,a⟩:=zn (min size (n-l));rw [<-a] at d;have hk64:k<=64:=by rw [a];exact qv (xK _ _) hs2
     have hbt:U ts<=2000000:=qv hts (qv (zr hpn) (qv hn FV));have hbn:C<=2000000:=qv hnh (qv (zr iv) (qv hj (qv hqn (qv hn FV))));have hks:k<=size:=by rw [a];exact xK _ _
     have hprod:(i:V)*(size:V)=(l:V):=by rw [X.out,zB]
     have hsub:(n:V)-(l:V)=((n-l:O):V):=(Int.ofNat_sub (zr hpn)).symm;have hnp1:n-l<=1048576:=qv (Qd _ _) hn;have hmn:min (size:V) ((n-l:O):V)=(k:V):=M;have hnp:G (n-l-size=n-(l+size)):=Nat.sub_sub _ _ _;generalize n-l=np at*;replace a:=T a;replace d:=T d;clear hu qj;go_wp2_with fail;refine KT.mono ?_;rintro e ln ⟨A1,c1,rfl,D',iL,uK⟩;have J':=T D';have Q':G (_n ln cY cY (size:V) ts C):=by
      obtain⟨At,ct,Ah,ch,hs,hd⟩:=HD.out;exact⟨At,ct,Ah,ch,hs,hd.cur r iL⟩
     have m':=T (cL.then iL);have z':=T (E'.zY uK);have t:=T (jg ln v A N cap b H D');clear D' iL uK r HD cL;by_cases m:H.err=0
     ·have y:=d.out;rw [qJ (by simpa using m)] at y;rw [m] at t;have KF:=T (Uw ln cY cY ln k C c1 (size:V) A1 K K ts Q' z' (qx _) hys (qv hk64 FV) hbt hbn u');have hfl:=kW K k true ⟨0,0⟩ ts;have hfs:=T (kS K k true ⟨0,0⟩ ts u');generalize QV K k true ⟨0,0⟩ ts=fg at*;obtain⟨er,ts2⟩:=fg;dsimp only at y hfl;dsimp only at KF;replace y:=T y;go_wp2_with fail;refine Ω t ?_;go_wp2_with fail;refine KF.mono ?_;rintro e w5 ⟨rfl,⟨nh5,Z',hnh5⟩,I'⟩;have HC5:=T (J'.low I' hgd hfd);have HD5:=T Z';have X':=T (m'.low I');clear Z' I' hprod hsub hmn;by_cases hh:er=0
      ·have p':=y.out;rw [qJ (by simpa using hh)] at p';have HR5:G (yr b size (n-(l+size)) (s.drop (i+1)) H ts2=R):=by rw [Hid,<-hnp.out];exact p'
       have HP3:G (l+size=(i+1)*size):=by rw [Hid,X.out,ql]
       subst hh;clear p';go_wp2_with fail;refine xk ?_;exact⟨i+1,nh5,l+size,H,ts2,xg,M,M,HP3,M,M,hfs,HR5,HC5,HD5,X'⟩
      ·have D:G (R=(er,[],0)):=by rw [Hid,<-y.out,qk hh]
       have her2:(er==0)=false:=by simpa using hh
       have M':G (r' W W w5):=w.trans (X'.below (λk a=>by rw [qy.1 a];exact ck) w.size);have L:=T hh;clear hh;go_wp2;go_ret3;rw [D.out];exact⟨M', .inl ⟨L,rfl⟩⟩
     focus
      have D:G (R=(H.err,[],0)):=by rw [Hid,<-d.out,qk m]
      have he2:(H.err==0)=false:=by simpa using m
      have L:=T m;have M':G (r' W W ln):=w.trans (m'.below (λk a=>by rw [qy.1 a];exact ck) w.size);generalize ih:H.err=E at*
     rotate_left
    rotate_left
    focus
     obtain rfl:i=j:=M;have hge3:=vc i i;have t:=T (jg wr v A N cap b o r);have KA:=T (JJ wr v A N cap b o r);have d:=qj.out;rw [zD (by rw [HL.out];exact qx _),YF] at d;replace d:=T d;clear qj;by_cases m:o.err=0
     ·have D:G (R=(0,ts,o.at_)):=by rw [Hid,<-d.out,qJ (by simpa using m)]
      rw [m] at t;have hqq:U ts<=2000000:=M;go_wp2_with fail;refine Ω t ?_;go_wp2_with fail;refine Ω KA ?_;go_wp2;go_ret3;rw [D.out];exact⟨S', .inr ⟨rfl,cY,C,rfl,w.size,HD.out.Vg w.size,hqq,u'⟩⟩
     focus
      have D:G (R=(o.err,[],0)):=by rw [Hid,<-d.out,qk m]
      have he2:(o.err==0)=false:=by simpa using m
      have L:=T m;generalize ih:o.err=E at*
     rotate_left
    rotate_left
    all_goals
     replace ih:=T ih;clear m;go_wp2_with fail;refine Ω t ?_;go_wp2;go_ret3;rw [D.out]
    ·exact⟨M', .inl ⟨L,rfl⟩⟩
    ·exact⟨S', .inl ⟨L,rfl⟩⟩
end
end Go.Proofs.YtfnlfpcfkbdcmaaGreatDoor
