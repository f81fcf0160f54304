import Derived.Test.YtfnlfpcfkbdcmaaGreatDoorL17
import Derived.ArgAppend
set_option linter.unusedSimpArgs false
set_option linter.unusedVariables false
set_option maxRecDepth 100000
set_option maxHeartbeats 0
open Go.Proofs.Tryz
namespace Go.Proofs.YtfnlfpcfkbdcmaaGreatDoor
open Go.RowKit
section
variable {A A2:q'}{N c2 cap g gc j k m:Nat}{W w w2 w3 w4 wr:World}{b out:qn}{cu cu2:Cu}{v x:Value}{y:UInt8}
theorem MH (k:Nat) (h:k<4294967296):bits .and .u64 (k:Int) 4294967295=(k:Int):=by
 rw [show(4294967295:Int)=((4294967295:Nat):Int) from rfl,u64_and_nat k _ uK uK];congr 1;have:=Nat.and_two_pow_sub_one_eq_mod k 32;rw [show(2:Nat)^32-1=4294967295 from rfl,show(2:Nat)^32=4294967296 from rfl,jk h] at this;exact this
theorem nB (k:Nat) (w:World) (h:k<4294967296):Calls prog 289 #[.int .u64 1, .int .u64 (k:Int)] w λe w'=>e= .returned (.tuple #[.int .u64 0, .int .u64 (k:Int)])/\w=w':=by
 have f:bits .and .u64 1 4294967295=1:=MH 1 uK;have b:bits .and .u64 0 4294967295=0:=MH 0 uK;have d:=MH k h;have d1:(k:Int)/4294967296=0:=uK;have c:IntKind.u64.wrap (k:Int)=(k:Int):=by rw [qS];omega
 go_wp2;go_ret2;exact⟨rfl,rfl⟩
theorem Mb (k:Nat) (w:World) (h:k<4294967296):Calls prog 270 #[.int .u64 1, .int .u64 (k:Int)] w λe w'=>e= .returned (.tuple #[.int .u64 0, .int .u64 (k:Int)])/\w=w':=by
 have K:=qj (nB k w h);go_in;go_wp2_with fail;refine Ω K ?_;go_wp2;go_ret2;exact⟨rfl,rfl⟩
theorem TX {base N:Nat} {e:TypeId} {b:List Value} (h:w.ownsRow base e 1 (.slice g N N) N b):Blk w g e b.toArray/\base<=g:=by
 rcases h.2 with⟨f,_⟩|⟨m,cap,cur,d,l,i,n,o,j,c⟩
 ·cases f
 ·injection d with a _ k;injection a with a;injection a with a;subst k;subst a;refine⟨?_,l⟩;rw [z_] at j c;have:b.toArray=cur:=by
   rw [<-c,qH (by rw [Q9];omega)]
  rw [this];exact i
def db (x:Value) (k m:Nat):List Value:=List.replicate m x++List.replicate (k-m) (.int .u8 0)
theorem Bh (x:Value) (k m d:Nat) (h:m+d<=k):splice (db x k m) m (List.replicate d x)=db x k (m+d):=by
 unfold splice db;rw [ZV s8,qH s8,zT,List.drop_append,zD s8,xY,zT,JC,<-jY,List.replicate_append_replicate];congr 2;omega
theorem EN (x:Value) (k m:Nat) (h:m<=k):(db x k m).length=k:=by unfold db;simp;omega
theorem MC {b:Addr} (h:w.cell? b=some x) (c:m<=1) (a:(List.replicate m x)[j]? =some v):w.cell? (b.add j)=some v:=by
 rw [jF] at a;split at a
 ·injection a with a;subst a;obtain rfl:j=0:=uK;rw [show b.add 0=b from by unfold Addr.add;split<;>simp_all];exact h
 ·cases a
theorem Qm {P:Program} (t e:TypeId) (i:TypeInfo) (s:Nat) (ht:P.underlying t=some (.slice e)) (hi:P.info? e=some i) (d:i.size=s) (A:q') (n c h:Nat) (kh:IntKind) (g:h<=c) (W:World):
  (Instr.slice t (.slice A n c) none (some (.int kh (h:Int))) none).run P W= .ok (.slice A h c) W:=by
 have b:P.elem t=e:=by simp [Program.elem,ht]
 rw [run_slice_h (a:=A) (len:=n) (cap:=c) (ht:=by rw [b];exact ht) (kh:=kh) (h:=(h:Int)) (h0:=by omega) (h2:=by omega),b];have f:(sizeOf e).run P W= .ok s W:=by simp [sizeOf,typeInfo,hi,d]
 rw [f];have h0: ∀a:Addr,a.add 0=a:=λa=>by unfold Addr.add;split<;>simp_all
 cases A<;>simp [Result.andThen,sliced,h0]
theorem nC {k d:Nat} (h:Blk w g 5 (db x k m).toArray) (b:d<=m) (a:(List.replicate d x)[j]? =some v):w.cell? ((g:Addr).add j)=some v:=by
 rw [jF] at a;split at a
 ·rw [Addr.add_mid,jL,h.cell,qR,db,q_ SZ,jF,qk uK];exact a
 ·cases a
def Ma (W:World) (k:Nat) (b:UInt8) (e:Ending) (a:World):Prop:=
 ∃g,e= .returned (.slice (some ⟨g,0,none⟩) k k)/\W.heap.size<=g/\Blk a g 5 (List.replicate k (B8 b)).toArray/\Below W W a
theorem TV (W:World) (t:Addr) (c k:Nat) (b:UInt8) (r:W.cell? t=some (B8 b)) (M:k<=20000):
  Calls prog 254 #[.slice (some t) 1 c,k] W (Ma W k b):=by
 obtain⟨A,hi,B,p,C⟩:=qA xR;replace hi:=qj hi;replace B:=qj B;replace p:=qj p;replace C:=qj C;have I:=qj (Mb k W uK);have N:t.block<W.heap.size:=yM r;have wk:IntKind.u64.wrap (k:Int)=(k:Int):=by rw [qS];omega
 have iL:IntKind.i64.wrap (k:Int)=(k:Int):=SX;have m': ¬(k:Int)<0:=uK;have I': ¬(9223372036854775807:Int)<(k:Int):=uK;obtain⟨x,q⟩: ∃x,x=B8 b:=⟨_,rfl⟩;rw [<-q] at r;have L:Hid (x.oneCell'=true):=by rw [Hid,q];rfl
 replace q:=qj q;replace r:=qj r;go_enter func254,ntmps254
 go_wp2_with fail;refine I.mono ?_;rintro e w' ⟨rfl,rfl⟩;obtain⟨f,n⟩: ∃f,f=Nat.min 1 k:=⟨_,rfl⟩;have T:f<=k:=by rw [n];exact Nat.min_le_right _ _
 have U:f<=1:=by rw [n];exact xK _ _
 have Y:0<k->0<f:=by intro h;rw [n];exact Nat.lt_min.2 ⟨uK,h⟩
 have E:Hid ((madeCells (Value.int .u8 0).cells (k*1)).toList=db x k 0):=by
  rw [Hid,z_];show(madeCells #[Value.int .u8 0] k).toList=_;rw [xf];simp [db]
 replace n:=qj n
 go_wp2_with (first
  |(refine wpList_copy_splice rfl (.tmp 31) (.tmp 32) 30 30 rfl 5 qu FD _ _ _ _ _ _ rfl rfl W 0 (db x k 0) 5 H (List.replicate f x) (by rw [zT];exact n) (λ_=>⟨rfl,t,rfl,λj v i=>(MC F U i)⟩) (by rw [zT,EN x k 0 (qp _)];omega) (λv i=>by rw [xJ i];exact L) W W w (qx _) ?_;intro X o g;replace g:=qj g;rw [Bh x k 0 f uK,jL] at o)
  |(at_make;refine xP _ rfl _ _ 30 rfl W 5 A (.int .u8 0) 1 qu hi B p .i64 .i64 _ _ k rfl rfl rfl rfl (by rw [C.out];omega) SJ (qx _) ?_;intro w1 u D;have w:=qj ((qZ W W).grown D (qx _) (λk M=>by cases M));rw [E.out] at u;have H:=qj (TX u).1;have O:=qj D.size;have F:=qj ((w.cell N).trans r);clear u D))
 have e0:((List.replicate f x).length:Int)=(f:Int):=by rw [zT]
 clear H w O F I E;generalize R:W.heap.size=a at*
 simp only [show decide ((9223372036854775807:Int)<(k:Int))=false from qc uK]
 go_loopw [8] (λy wr=> ∃m:Nat,y=(m:Value)/\m<=k/\(0<k->0<m)/\Hid (Blk wr a 5 (db x k m).toArray)/\Hid (Below a W wr)) (λy _=>k-(intOf y).toNat)
 case atStart=>exact⟨f,by first|rfl|(simp only [zT];rfl)|simp [goInt],T,Y,o,g⟩
 case round=>
  clear o g;obtain⟨m,rfl,z,Q,s,G⟩:=hrel;by_cases p':m<k
  ·have J':(m:Int)<(k:Int):=uK
   have u':(0:Int)<=(m:Int):=uK;have N6:(m:Int)<=(k:Int):=uK;obtain⟨d,l⟩: ∃d,d=Nat.min m (k-m):=⟨_,rfl⟩;have d':d<=m:=by rw [l];exact xK _ _
   have z':d<=k-m:=by rw [l];exact Nat.min_le_right _ _
   have M':0<d:=by rw [l];exact Nat.lt_min.2 ⟨Q uK,uK⟩
   have Z:=jI (P:=prog) 30 5 A 1 qu hi p a k k m .i64 z;have D':=Qm (P:=prog) 30 5 A 1 qu hi p a k k m .i64 z;rw [show xo (some (a:Addr)) k m 1=some ⟨a,m,none⟩ from by unfold xo;rw [qJ uK];simp only [Za,Addr.add_mid,jL,z_]] at Z
   have ws:IntKind.i64.wrap ((m:Int)+(d:Int))=((m+d:Nat):Int):=SX;replace l:=qj l
   go_wp2_with fail;refine zv 10 (λ_=>True) AL trivial (λS=> ?_)
   refine zq [0,1,2,3,4,5] (a':= ?_) ?_;refine zq [6] (a':= ?_) ?_;refine QY 7 rfl AL (λK J=> ?_)
   (refine step_copy_splice rfl (.tmp 41) (.tmp 44) 30 30 rfl 5 qu FD _ _ _ _ _ _ rfl rfl a m (db x k m) 5 s (List.replicate d x) (by rw [zT];exact l) (λ_=>⟨rfl,a,rfl,λj v i=>(nC s d' i)⟩) (by rw [zT,EN x k m z];omega) (λv i=>by rw [xJ i];exact L) a W G.drew (qx _) ?_;intro X o g;replace g:=qj g;rw [Bh x k m d uK] at o)
   refine J _ _ (trivial) (λS=> ?_);clear J K;try simp only [Act.put,qQ,qY,qV]
   refine zq [8,9] (a':= ?_) ?_;refine zV AL ?_ _;go_roundw
   case rel=>exact⟨_,_,_,_,_,_,_,_,_,_,_,_,_,_,⟨m+d,by first|exact zo _ (xe m d).symm|rfl|simp,uK,λ_=>uK,o,g⟩,by first|rfl|simp⟩
   case measure=>simp [intOf];omega
  ·have G': ¬(m:Int)<(k:Int):=uK
   obtain rfl:m=k:=uK;have V:Hid (Blk wr a 5 (List.replicate m (B8 b)).toArray):=by
    have h:=s.out;rw [db,xO,q.out] at h;simpa [Hid] using h
   clear s
   go_wp2_with fail;go_ret;exact⟨a,rfl,uK,V.out,R▸G.out⟩
structure LvS (W:World) (gc:Nat) (A:q') (N cap:Nat) (b:qn) (wr:World) (m c2:Nat) (A2:q') (cu:Cu) (out:qn):Prop where
 len:out.length=m
 cur:Cur wr gc A N cap b cu
 blk:Blk wr W 293 #[.pointer gc]
 own:wr.ownsRow (W.heap.size+1) 5 1 (.slice A2 m c2) m (out.map B8)
 jZ:qE [gc] W wr
 size:W.heap.size+1<=wr.heap.size
theorem LvS.step (h:LvS W gc A N cap b wr m c2 A2 cu out) (f:gc<W.heap.size) (c:Cur w2 gc A N cap b cu2) (a:qE [gc] wr w2):LvS W gc A N cap b w2 m c2 A2 cu2 out:=
 ⟨h.len,c,a.blk h.blk (by rw [qy];omega),a.own h.own (λk d e=>by have:=(zj h.own k d).1;rw [qy.1 e] at this;omega),h.jZ.then a,qv h.size a.size⟩
theorem LvS.app (h:LvS W gc A N cap b wr m c2 A2 cu out) (o:gc<W.heap.size) (j: ∀k∈fpS A,k<W.heap.size) (n:Below wr wr w3) (l:w3.grownBy w4 (A2.map (·.block))) {f:q'} {e:Nat} (g:w4.ownsRow (W.heap.size+1) 5 1 (.slice f (m+k) e) (m+k) (out.map B8++List.replicate k (B8 y))):LvS W gc A N cap b w4 (m+k) e f cu (out++List.replicate k y):=by
 have c:=λk a=>(zj h.own k a).1;have d:=(qE.jq n).grown l (λk a=> .inl a);refine⟨by rw [qK,zT,h.len],h.cur.jZ d (λa=>by have:=c _ a;omega) (λk a i=>by have:=c _ i;have:=j k a;omega),d.blk h.blk (λa=>by have:=c _ a;omega), ?_,h.jZ.trans d (λk a=> .inr (by have:=c k a;omega)),qv h.size d.size⟩;rw [qg,yP];exact g
def Jn (w:World) (g:Nat):Nat:=if intOf ((w.cell? ⟨g,2,none⟩).getD undef)=0 then 1 else 0
theorem IU {N cap:Nat} {A:q'} {b:qn} {c:Cu} (h:Cur w g A N cap b c) (a:c.err=0):Jn w g=1:=by unfold Jn;rw [h.XZ,a];rfl
theorem gH {N cap:Nat} {A:q'} {b:qn} {c:Cu} (h:Cur w g A N cap b c) (a:c.err≠0):Jn w g=0:=by
 unfold Jn;rw [h.XZ,qJ];exact a
theorem vX (b:qn) (a:Int) (c:Cu) (h:0<=a):((jU b a c).1:Int)<=a:=by
 unfold jU;dsimp only;split
 ·exact h
 ·exact Yi _ _ h
theorem MA (b:qn) (a:Int) (c:Cu) (h:(jU b a c).2.err≠0):(jU b a c).1=0:=by
 unfold jU at h⊢;dsimp only at h⊢;split
 ·rfl
 ·rename_i h0;unfold yO at h;rw [qJ h0] at h;split at h
  ·rename_i h1;exact eC _ _ h1
  ·exact absurd rfl h
theorem dB {c:Cu} {e:Int} (a:e≠0):(vP c e).err≠0:=by
 unfold vP;split
 ·exact a
 ·assumption
def Me (W:World) (c:Nat) (A:q') (N cap:Nat) (b:qn) (r:qn×Cu) (e:Ending) (a:World):Prop:=
 ∃f d,e= .returned (.slice f r.1 d)/\a.ownsRow W 5 1 (.slice f r.1 d) r.1 (r.1.map B8)/\Cur a c A N cap b r.2/\qE [c] W a
theorem LvS.ret {W wr:World} {c N cap m c2:Nat} {A a:q'} {b e:qn} {d:Cu} (h:LvS W c A N cap b wr m c2 a d e):Me W c A N cap b (e,d) (.returned (.slice a m c2)) wr:=by
 have:=h.len;subst this;exact⟨a,_,rfl,qi h.own uK,h.cur,h.jZ⟩
theorem uq (b:qn) (n f:Nat) (c:Cu) (a:qn) (h:n<=a.length\/c.err≠0):xx b n f c a=(a,c):=by
 cases f with
 |zero=>rfl
 |succ f=>unfold xx;rw [qk h]
def na (a:qn) (y:UInt8) (k:Nat) (c:Cu):Cu:=if c.err=0/\(k=0\/(a≠[]/\a.getLastD 0=y)) then vP c 2 else c
theorem Em {a:qn} {m:Nat} {z:UInt8} (b:a.length=m) (c:a[m-1]? =some z):a.getLastD 0=z:=by
 subst b;rw [JG,List.getLast?_eq_getElem?,c];rfl
theorem nA {x:UInt8} (h:x≠y):((x.toNat:Int)==(y.toNat:Int))=false:=by
 rw [zE];intro h2;exact h (jG.1 uK)
theorem Kk (h:Blk w g 5 (List.replicate k (B8 y)).toArray):Reads w w 1 g k (List.replicate k (B8 y)):=by
 refine⟨s8,λ_=>⟨_,rfl,h.lt,λj v a=> ?_⟩⟩;rw [Addr.add_mid,jL,h.cell,qR];exact a
theorem GN (W:World) (a:Nat) (A:Option Addr) (N cap n:Nat) (b:List UInt8) (c:Cu) (h:Cur W a A N cap b c) (hn:n<=20000):
  Calls prog 230 #[.agg #[.pointer a],n] W (Me W a A N cap b (xx b n (n+1) c [])):=by
 obtain⟨i0,hi,X,d',Z⟩:=qA xR;replace hi:=qj hi;replace X:=qj X;replace d':=qj d';replace Z:=qj Z;obtain⟨R,hR⟩: ∃R,R=xx b n (n+1) c []:=⟨_,rfl⟩;rw [<-hR];replace hR:Hid (xx b n (n+1) c []=R):=hR.symm;have J:Hid (a<W.heap.size):=h.blk.lt;have D':Hid (∀k∈fpS A,k<W.heap.size):=λk hk=>(zj h.own k hk).2;have P':Hid (LvS W a A N cap b (W.alloc (.cells #[.pointer a] 293)) 0 0 none c []):=
  ⟨rfl,h.fresh ((qZ _ _).alloc (qx _) (.cells #[.pointer a] 293)),Blk.new _ _ _,qP _ _ _ _,(qE.refl _ _).alloc _,s8⟩
 clear h;go_enter func230,ntmps230
 go_wp2_with fail;generalize W.alloc (.cells #[.pointer a] 293)=w0 at*
 go_loopw [5] (λv5 wr=> ∃(m c2 f:Nat) (A2:Option Addr) (cu:Cu) (out:List UInt8),v5= .slice A2 m c2/\m<=n/\(n-m)+Jn wr a<=f/\Hid (xx b n f cu out=R)/\Hid (LvS W a A N cap b wr m c2 A2 cu out)) (λv5 wr=>(n-Y8 v5)+Jn wr a)
 case atStart=>exact⟨0,0,n+1,none,c,[],rfl,uK,by unfold Jn;split<;>omega,hR,P'⟩
 case round=>
  clear P' hR;obtain⟨m,c2,f,A2,cu,out,rfl,hmn,hf,HG,K⟩:=hrel;have q0:=K.blk.cell 0;simp only [qR,qt] at q0;have HL:=qj K.len;by_cases hlt:m<n
  ·have hlt':(m:Int)<(n:Int):=uK
   have KE:=qj (jg wr a A N cap b cu K.cur);by_cases hE:cu.err=0
   ·have hM:=IU K.cur hE
    have p':=qj hM;obtain⟨f,rfl⟩: ∃f',f=f'+1:=⟨f-1,uK⟩;have N6:=HG.out;unfold xx at N6;rw [qJ (by rw [HL.out];simp [hE];omega)] at N6
    have KY:=qj (QS wr a A N cap b cu K.cur);have s:xx b n f (na out (j_ b cu).1 (jU b ((n-m:Nat):Int) (j_ b cu).2).1 (jU b ((n-m:Nat):Int) (j_ b cu).2).2) (out++List.replicate (jU b ((n-m:Nat):Int) (j_ b cu).2).1 (j_ b cu).1)=R:=by
     rw [<-HL.out];exact N6
    replace s:=qj s;clear HG N6;rw [hE] at KE;generalize j_ b cu=yc at*
    obtain⟨y,G'⟩:=yc;unfold jS B8 at KY;dsimp only at s KY;have S':=vX b ((n-m:Nat):Int) G' uK;have hke:=qj (MA b ((n-m:Nat):Int) G');have KI:=λ(w:World) h=>qj (yK w a A N cap b G' ((n-m:Nat):Int) h uK);generalize O':jU b ((n-m:Nat):Int) G'=kc at*
    replace O':=qj O';obtain⟨k,cu2⟩:=kc;unfold jS at KI;dsimp only at s KI S' hke;have ws:IntKind.i64.wrap ((n:Int)-(m:Int))=((n-m:Nat):Int):=SX;have hkn:k<=n-m:=uK;clear hE hM S'
    go_wp2_with fail;refine KE.mono ?_;rintro e w' ⟨rfl,rfl⟩
    go_wp2_with fail;refine KY.mono ?_;rintro e w1 ⟨rfl,OX,G⟩;have M':=qj (K.step J OX G);have q1:=M'.blk.cell 0;simp only [qR,qt] at q1;clear KE KY q0
    go_wp2_with fail;refine(KI _ M'.cur).out.mono ?_;rintro e w2 ⟨rfl,Q',D⟩;have j:=qj (M'.step J Q' D);have q2:=j.blk.cell 0;simp only [qR,qt] at q2;clear KI q1 OX G Q' D K M';have F:=qj (jg w2 a A N cap b cu2 j.cur);have U:=λ(w:World) h=>qj (yB w a A N cap b cu2 2 h);unfold jS at U;have KR:=λ(w:World)=>qj (TV (w.alloc (.cells #[.int .u8 (y.toNat:Int)] 5)) w.heap.size 1 k y ((Blk.new w _ _).cell 0) uK)
    unfold Ma at KR;by_cases m':cu2.err=0
    focus
     rw [m'] at F
     by_cases V:k=0
     focus
      have hkz:((k:Int)==0)=true:=by rw [yp];omega
      replace V:=qj V;have T:Hid (xx b n f (vP cu2 2) (out++List.replicate k y)=R):=by
       have h:=s.out;unfold na at h;rw [qk ⟨m', .inl V.out⟩] at h;exact h
      have O:Hid (k=0->(vP cu2 2).err≠0):=λ_=>dB FV
      go_wp2_with fail;refine F.mono ?_;rintro e w' ⟨rfl,rfl⟩
      go_wp2_with fail;refine(U _ j.cur).out.mono ?_;rintro e w3 ⟨rfl,u',z'⟩;have d:=qj (j.step J u' z');clear j F U u' z' q2
      go_wp2_with fail;refine(KR w3).out.mono ?_;rintro e Q ⟨M,rfl,P,B,g⟩;have t:=qj (Qv (Qv d.own ((qZ _ _).alloc (qx _) (.cells #[.int .u8 (y.toNat:Int)] 5))) g);have i:=qj (((qZ w3 w3).alloc (qx _) (.cells #[.int .u8 (y.toNat:Int)] 5)).trans (g.mono s8))
     rotate_left
     focus
      have hkz:((k:Int)==0)=false:=by rw [zE];omega
      by_cases I':m=0
      focus
       have Z': ¬(0:Int)<(m:Int):=uK
       have hmz':decide (0<m)=false:=by rw [zW];omega
       have ho0:=qj (show out=[] from zl (by rw [HL.out];exact I'))
       replace I':=qj I';have T:Hid (xx b n f (cu2) (out++List.replicate k y)=R):=by
        have h:=s.out;unfold na at h;rw [qJ (λh=>h.2.elim V (λh2=>h2.1 ho0.out))] at h;exact h
       have O:Hid (k=0->(cu2).err≠0):=λh=>absurd h V
       go_wp2_with fail;refine F.mono ?_;rintro e w' ⟨rfl,rfl⟩;have d:=j;clear j F U q2
       go_wp2_with fail;refine(KR w2).out.mono ?_;rintro e Q ⟨M,rfl,P,B,g⟩;have t:=qj (Qv (Qv d.own ((qZ _ _).alloc (qx _) (.cells #[.int .u8 (y.toNat:Int)] 5))) g);have i:=qj (((qZ w2 w2).alloc (qx _) (.cells #[.int .u8 (y.toNat:Int)] 5)).trans (g.mono s8))
      rotate_left
      focus
       have Z':(0:Int)<(m:Int):=uK
       have hmz':decide (0<m)=true:=by rw [jo];omega
       have wm:IntKind.i64.wrap ((m:Int)-1)=((m-1:Nat):Int):=SX;have b1:(0:Int)<=((m-1:Nat):Int):=uK;have b2:((m-1:Nat):Int)<(m:Int):=uK;have b3:m-1<m:=uK;obtain⟨Y,z,hA1,x,hcell⟩: ∃Y z,A2=some Y/\out[m-1]? =some z/\w2.cell? (Y.add (m-1))=some (.int .u8 (z.toNat:Int)):=by
        obtain⟨Y,u,h1,-,hu,h2⟩:=(Reads.zY j.own).at_ b3;obtain⟨z,x,rfl⟩:=get_map B8 out (m-1) u hu;exact⟨Y,z,h1,x,h2⟩
       have J':out.getLastD 0=z:=Em HL x;have hone:out≠[]:=λh=>by have:=HL.out;rw [h] at this;exact I' this.symm
       subst hA1;obtain⟨m1,N'⟩: ∃m1,m1=m-1:=⟨_,rfl⟩;rw [<-N'] at wm b1 b2 b3 hcell;replace N':=qj N';replace J':=qj J';clear x;by_cases iL:z=y
       focus
        have U':((z.toNat:Int)==(y.toNat:Int))=true:=by rw [iL,beq_self_eq_true]
        have Y':decide ((z.toNat:Int)=(y.toNat:Int))=true:=by rw [iL];simp
        have N9:=qj iL;clear iL;have T:Hid (xx b n f (vP cu2 2) (out++List.replicate k y)=R):=by
         have h:=s.out;unfold na at h;rw [qk ⟨m', .inr ⟨hone,J'.trans N9.out⟩⟩] at h;exact h
        have O:Hid (k=0->(vP cu2 2).err≠0):=λ_=>dB FV
        go_wp2_with fail;refine F.mono ?_;rintro e w' ⟨rfl,rfl⟩
        go_wp2_with fail;refine(U _ j.cur).out.mono ?_;rintro e w3 ⟨rfl,u',z'⟩;have d:=qj (j.step J u' z');clear j F U u' z' q2
        go_wp2_with fail;refine(KR w3).out.mono ?_;rintro e Q ⟨M,rfl,P,B,g⟩;have t:=qj (Qv (Qv d.own ((qZ _ _).alloc (qx _) (.cells #[.int .u8 (y.toNat:Int)] 5))) g);have i:=qj (((qZ w3 w3).alloc (qx _) (.cells #[.int .u8 (y.toNat:Int)] 5)).trans (g.mono s8))
        have gA:=trivial
       rotate_left
       focus
        have U':((z.toNat:Int)==(y.toNat:Int))=false:=nA iL
        have Y':decide ((z.toNat:Int)=(y.toNat:Int))=false:=by have:=zE.1 U';simpa using this
        have N9:=qj iL;clear iL;have T:Hid (xx b n f (cu2) (out++List.replicate k y)=R):=by
         have h:=s.out;unfold na at h;rw [qJ (λh=>h.2.elim V (λh2=>N9.out (J'.symm.trans h2.2)))] at h;exact h
        have O:Hid (k=0->(cu2).err≠0):=λh=>absurd h V
        go_wp2_with fail;refine F.mono ?_;rintro e w' ⟨rfl,rfl⟩;have d:=j;clear j F U q2
        go_wp2_with fail;refine(KR w2).out.mono ?_;rintro e Q ⟨M,rfl,P,B,g⟩;have t:=qj (Qv (Qv d.own ((qZ _ _).alloc (qx _) (.cells #[.int .u8 (y.toNat:Int)] 5))) g);have i:=qj (((qZ w2 w2).alloc (qx _) (.cells #[.int .u8 (y.toNat:Int)] 5)).trans (g.mono s8))
        have gA:=trivial
    rotate_left 4
    focus
     have hEz:(cu2.err==0)=false:=by simpa using m'
     have hE2h:=qj m';have T:Hid (xx b n f (cu2) (out++List.replicate k y)=R):=by
      have h:=s.out;unfold na at h;rw [qJ (λh=>m' h.1)] at h;exact h
     have O:Hid (k=0->(cu2).err≠0):=λ_=>hE2h.out;generalize X':cu2.err=E2 at F hEz m';replace X':=qj X'
     go_wp2_with fail;refine F.mono ?_;rintro e w' ⟨rfl,rfl⟩;have d:=j;clear j F U q2
     go_wp2_with fail;refine(KR w2).out.mono ?_;rintro e Q ⟨M,rfl,P,B,g⟩;have t:=qj (Qv (Qv d.own ((qZ _ _).alloc (qx _) (.cells #[.int .u8 (y.toNat:Int)] 5))) g);have i:=qj (((qZ w2 w2).alloc (qx _) (.cells #[.int .u8 (y.toNat:Int)] 5)).trans (g.mono s8))
    all_goals first
     |clear gA
      have o:=qj (Kk B);have p:Hid (W.heap.size+1<=Q.heap.size):=qv d.size i.size;have G:m+k<=maxLen:=SJ;have D:(m+k)*1<=140737488355328:=uK;clear P B g
      go_wp2_with (at_builtin;refine qF _ rfl (.tmp 54) (.tmp 58) 30 rfl (W.heap.size+1) 5 i0 (.int .u8 0) 1 1 qu hi X d' Z rfl uK (some Y) m c2 _ rfl t _ M k k _ rfl o (λv H=>by rw [xJ H];rfl) G D p ?_;intro L S w4 q r I;have C:=qj (d.app J D' i r q);clear q r I)
      have l:Hid (n-(m+k)+Jn w4 a<=f/\n-(m+k)+Jn w4 a<n-m+Jn wr a):=by
       have h1:=p'.out;rw [Hid,h1];by_cases x:k=0
       ·have:=gH C.cur (O.out x);omega
       ·have:Jn w4 a<=1:=by unfold Jn;split<;>omega
        omega
      clear s d t i o p;go_roundw
      case rel=>exact⟨m+k,S,f,L,_,_,by first|rfl|simp,uK,l.out.1,T,C⟩
      case measure=>simpa [Y8] using l.out.2
     |have o:=qj (Kk B);have p:Hid (W.heap.size+1<=Q.heap.size):=qv d.size i.size;have G:m+k<=maxLen:=SJ;have D:(m+k)*1<=140737488355328:=uK;clear P B g
      go_wp2_with (at_builtin;refine qF _ rfl (.tmp 54) (.tmp 58) 30 rfl (W.heap.size+1) 5 i0 (.int .u8 0) 1 1 qu hi X d' Z rfl uK A2 m c2 _ rfl t _ M k k _ rfl o (λv H=>by rw [xJ H];rfl) G D p ?_;intro L S w4 q r I;have C:=qj (d.app J D' i r q);clear q r I)
      have l:Hid (n-(m+k)+Jn w4 a<=f/\n-(m+k)+Jn w4 a<n-m+Jn wr a):=by
       have h1:=p'.out;rw [Hid,h1];by_cases x:k=0
       ·have:=gH C.cur (O.out x);omega
       ·have:Jn w4 a<=1:=by unfold Jn;split<;>omega
        omega
      clear s d t i o p;go_roundw
      case rel=>exact⟨m+k,S,f,L,_,_,by first|rfl|simp,uK,l.out.1,T,C⟩
      case measure=>simpa [Y8] using l.out.2
   ·have HR:Hid (R=(out,cu)):=by rw [Hid,<-HG.out];exact uq _ _ _ _ _ (.inr hE)
    have hzn:(cu.err==0)=false:=by simpa using hE
    have HF:=qj K.ret;generalize cu.err=E at*
    clear HG hf
    go_wp2_with fail;refine KE.mono ?_;rintro e w' ⟨rfl,rfl⟩
    go_wp2_with fail;go_ret;rw [HR.out];exact HF.out
  ·have hge: ¬(m:Int)<(n:Int):=uK
   have HR:Hid (R=(out,cu)):=by rw [Hid,<-HG.out];exact uq _ _ _ _ _ (.inl (by rw [HL.out];omega))
   clear HG
   go_wp2_with fail;go_ret;rw [HR.out];exact K.ret
def Ce (W:World) (gf c way n p:Nat) (A:q') (N cap:Nat) (b:qn) (e:Ending) (a:World):Prop:=
 e= .returned (.tuple #[])/\qE [gf,c] W a/\ ∃d c1,Fr a gf c way n p (.slice d (kE b).1.length c1) A N cap b (UZ b)/\a.ownsRow W 5 1 (.slice d (kE b).1.length c1) (kE b).1.length ((kE b).1.map B8)
theorem Tz (W:World) (gf c way n:Nat) (bd:Value) (A:q') (N cap:Nat) (b:qn) (T:q') (s B:Nat) (ht:Tab W) (h:Fr W gf c way n (Vl b).1 bd A N cap b (gP b)) (hr:Reads W B 1 T b.length (b.map B8)) (hB:B<=W.heap.size) (hg:B<=gf/\B<=c) (hcb:b.length<=s) (O':s<=maxLen) (J':0<B):
  Calls prog 224 #[.pointer gf, .slice T b.length s] W (Ce W gf c way n (Vl b).1 A N cap b):=by
 have H:=qj h;have HT:=qj ht;have HR:=qj hr;have HB:=qj hB;have X:=qj hg;have X':=qj J';have I:Hid (gf<W.heap.size/\c<W.heap.size):=⟨h.blk.lt,h.cur.blk.lt⟩;have d':Hid (jW b (Vl b).1 (gP b)=kE b):=rfl;have I':Hid ((jW b 4 (kE b).2).2=Fj b):=rfl;have j:UZ b=if(Fj b).err≠0 then Fj b else vP (Fj b) (QH (b.take (Fj b).at_)):=rfl
 have V:Hid (∀W (h:Cur W c A N cap b (Fj b)),(Fj b).at_<=b.length):=λW h=>by have h1:=h.le;have h2:=h.len;omega
 have t:=qj (Qs _ c A N _ b _ ((Vl b).1:Int) h.drew.cur);have w:=qj (λW (h:Cur W c A N cap b (kE b).2)=>Qs W c A N _ b _ 4 h);rw [d'.out] at t;rw [I'.out] at w;unfold Ce;generalize (kE b).1=D,(kE b).2=c6 at*;generalize (jW b 4 c6).1=zs,UZ b=c8 at*;generalize Fj b=a,gP b=c5,(Vl b).1=p at*;replace j:=qj j;unfold X1 at t w;obtain⟨q0,-,-,q3,q4⟩:=h.cells;have O:=h.ne;clear h ht hr hB hg J';go_in;go_wp2_with fail;refine zv 10 (λW=>W.cell? gf=some (.pointer c)/\W.cell? ⟨gf,3,none⟩=some (p:Value)) AL ⟨q0,q3⟩ (λz'=> ?_);refine zq [0,1,2,3,4,5] (a':= ?_) ?_;refine zq [6,7,8] (a':= ?_) ?_;refine carried 9 rfl AL SQ (λK d=> ?_);go_simp
 (go_at_call 153;((with_reducible refine(t.out).mono ?_);rintro e L ⟨l,c1,rfl,M,i,R⟩);have U':=i.cell (by simpa using O) q4;have N':=(H.out.drew.step M i).frz 4)
 refine d _ _ (⟨i.cell (by simpa using O) q0,i.cell (by simpa using O) q3⟩) (λz'=> ?_);clear d K;try simp only [Act.put,qQ,qY,qV]
 refine j4 10 rfl AL FV SQ (λK d=> ?_);go_simp;refine d _ _ ?_;clear d K;try simp only [Act.put,qQ,qY,qV]
 refine j4 11 rfl AL FV SQ (λK d=> ?_);go_simp;refine d _ _ ?_;clear d K;try simp only [Act.put,qQ,qY,qV]
 refine j4 12 rfl AL FV SQ (λK d=> ?_);go_simp;refine d _ _ ?_;clear d K;try simp only [Act.put,qQ,qY,qV]
 refine zV AL ?_ _;have G':=H.drew.step M i;have y:=qj (G'.Lu (.slice l D c1));have M':qE [gf,c] W L:=(qE.refl [gf,c] W).drew.then (i.mono λk g=>by rw [qy.1 g];simp);have p':=qj (Qf M' 4 (.slice l D c1));have J:=qj (((qE.refl [gf] L).zh (p:=⟨gf,4,none⟩) (qy.2 rfl) (.slice l D c1)).own (qi R (show W.heap.size<=W.drew.heap.size from qx _)) (λk g o=>by have:=(zj R k g).1;have e:W.drew.heap.size=W.heap.size:=rfl;rw [qy.1 o] at this;have:=I.out;omega));clear t M i R G' M' q0 q3 q4 U' N' z';generalize L.setCell ⟨gf,4,none⟩ (.slice l D c1)=w2 at*;obtain⟨q0,-,-,-,-⟩:=y.cells;have iL:=qj (w _ y.cur);go_wp2_with fail;refine iL.mono ?_;rintro e x ⟨A2,c2,rfl,m',C,-⟩;have f:=qj (y.step m' C);have q:=qj (yv p' C);have S:=qj (C.own J (λk g o=>by have:=(zj J k g).1;rw [qy.1 o] at this;have:=I.out;omega));have z:=qj (jg x c A N _ b a f.cur);obtain⟨r0,-,-,-,-⟩:=f.cells;clear m' C q0;by_cases m:a.err=0
 ·have r:Hid (c8=vP a (QH (b.take a.at_))):=by rw [Hid,j.out,qJ (by simpa using m)]
  have N9:=V _ f.cur;have S':=f.cur.lim;have P':=f.cur.len;have K4:=qj (JJ x c A N _ b a f.cur);have P:Below B W x:=q.below (λk g=>by
   simp only [qL,xj,Ze] at g;rcases g with rfl|rfl
   ·exact X.out.1
   ·exact X.out.2) HB.out
  have Y:=(HR.below P).takeN N9;have U:=qj (Vr T _ s _ x (HT.below P X') (Y.more (qv HB q.size)) uK O' uK);rw [m] at z;have hat0:(0:Int)<=(a.at_:Int):=uK;have hat1:(a.at_:Int)<=(s:Int):=uK;have F:=qj (λW (h:Cur W c A N cap b a)=>yB W c A N _ b a (QH (b.take a.at_)) h);rw [<-r.out] at F;unfold jS at F;unfold Qr at U;generalize a.at_=k at*;clear P Y m S' P';go_wp2_with fail;refine Ω z ?_;go_wp2_with fail;refine Ω K4 ?_;go_wp2_with fail;refine U.mono ?_;rintro e w4 ⟨A4,c4,rfl,v⟩;have G:=qj (f.fresh v.2);have Z:=qj (q.fresh v.2);have Q:=qj (qG S v.2);have u':=qj (F _ G.cur);obtain⟨s0,-,-,-,-⟩:=G.cells;generalize QH (b.take k)=er,vR (b.take k)=vs at*;clear v r0;go_wp2_with fail;refine zC u' ?_;rintro w5 ⟨D',u⟩;have N6:=qj (G.step D' u);have Q':=qj (yv Z u);have OX:=qj (u.own Q (λk g o=>by have:=(zj Q k g).1;rw [qy.1 o] at this;have:=I.out;omega));clear D' u s0;go_wp2;go_end0;exact⟨rfl,Q',l,_,N6,OX⟩
 ·have r:Hid (c8=a):=by rw [Hid,j.out,qk m]
  have Y':((a.err) !=0)=true:=by simpa using m
  generalize a.err=E at*;rw [<-r.out] at f;go_wp2_with fail;refine Ω z ?_;go_wp2_with fail
  (try simp only [Exit.inBlock,Exit.then])
  refine qW (results_none rfl _ _ _) rfl ?_;exact⟨rfl,q,l,_,f,S⟩
end
section
variable {A Ab Ab' Ao:q'}{E t:TypeId}{W W' w w' w2:World}{at_ b base c cb ch co g j k m n nb no:Nat}{bd:List Nat}{d:Array Value}{out:qn}
def XK (w w':World):Prop:= ∀(k:Nat) (t:TypeId) (b:Array Value) (a:Nat×Nat),w.heap[k]? =some (.cells b t a)->t≠309->t≠3->w'.heap[k]? =some (.cells b t a)
theorem XK.refl (w:World):XK w w:=λ_ _ _ _ h _ _=>h
theorem XK.trans {a b c:World} (h:XK a b) (f:XK b c):XK a c:=λk t e d g h1 h2=>f k t e d (h k t e d g h1 h2) h1 h2
theorem XK.drew (w:World):XK w w.drew:=λ_ _ _ _ h _ _=>h
theorem XK.alloc (w:World) (o:Obj):XK w (w.alloc o):=λk _ _ _ a _ _=>(heap_alloc_old w o (jz a)).trans a
theorem XK.below {w w':World} (h:Below w w w'):XK w w':=λk _ _ _ a _ _=>(h.block k (jz a)).trans a
theorem XK.setCell {w:World} {g:Nat} {c:Nat×Nat} (b:w.heap[g]? =some (.cells d t c)) (ht:t=309\/t=3) (j:Nat) (u:Value):XK w (w.setCell ⟨g,j,none⟩ u):=λk h i f a h1 h2=>by
 have e:k≠g:=by
  rintro rfl;rw [b] at a;injection a with a
  injection a with _ a
  subst a;rcases ht with ht|ht
  ·exact h1 ht
  ·exact h2 ht
 exact(jT w ⟨g,j,none⟩ u k e).trans a
theorem XK.grown {w w':World} {base:Nat} {b:List Value} (h:w.ownsRow base 3 1 (.slice A n c) n b) (d:w.grownBy w' (A.map (·.block))):XK w w':=λk t j i a h1 h2=>by
 refine(d.block k (jz a) λe=> ?_).trans a;obtain⟨g,f,h3⟩:=jV h k e.symm;rw [a] at h3;injection h3 with h3
 injection h3 with _ h3
 exact h2 h3
theorem XK.own {w w':World} {base size:Nat} {d:List Value} (f:XK w w') (h:w.ownsRow base E size (.slice A n c) n d) (h1:E≠309) (h2:E≠3):w'.ownsRow base E size (.slice A n c) n d:=
 zI h λa e=>by
  obtain⟨i,g,b⟩:=jV h _ (by rw [e];rfl)
  rw [b];exact f _ _ _ _ b h1 h2
theorem XK.blk {w w':World} {g:Nat} {a:Array Value} (b:XK w w') (h:Blk w g t a) (h1:t≠309) (h2:t≠3):Blk w' g t a:=b _ _ _ _ h h1 h2
structure Rdr (W:World) (base g k m ch:Nat) (Ao:q') (no co:Nat) (Ab:q') (nb cb at_:Nat) (out:qn) (bd:List Nat):Prop where
 blk:Blk W g 309 #[k,m,ch, .slice Ao no co, .slice Ab nb cb,at_]
 ge:base<=g
 oo:W.ownsRow base 5 1 (.slice Ao no co) no (out.map B8)
 ob:W.ownsRow base 3 1 (.slice Ab nb cb) nb (bd.map NV)
theorem Rdr.below (h:Rdr W base g k m ch Ao no co Ab nb cb at_ out bd) (a:Below W W W'):Rdr W' base g k m ch Ao no co Ab nb cb at_ out bd:=
 ⟨h.blk.below a h.blk.lt,h.ge,qG h.oo a,qG h.ob a⟩
theorem Rdr.drew (h:Rdr W base g k m ch Ao no co Ab nb cb at_ out bd):Rdr W.drew base g k m ch Ao no co Ab nb cb at_ out bd:=⟨h.blk.drew,h.ge,h.oo.drew,h.ob.drew⟩
theorem Xr {size:Nat} {d:List Value} {f:Array Value} (h:W.ownsRow base E size (.slice A n c) n d) (k:Blk W g 309 f) (m:E≠309) (u:Value):(W.setCell ⟨g,j,none⟩ u).ownsRow base E size (.slice A n c) n d:=
 zI h λa i=>by
  refine jT W ⟨g,j,none⟩ u a.block (λe=> ?_);obtain⟨p,o,b⟩:=jV h g (by rw [i];exact zo _ e)
  have l:W.heap[g]? =some (.cells f 309):=k;rw [l] at b;injection b with b
  injection b with _ b
  exact m b.symm
theorem g_ {size:Nat} {k:List Value} (f:Blk W g 309 d) (h:W.ownsRow b E size (.slice A n c) n k) (j:E≠309) (l:W.grownBy W' (A.map (·.block))):Blk W' g 309 d:=
 f.grown l λe=>by
  obtain⟨m,o,a⟩:=jV h g e.symm;have i:W.heap[g]? =some (.cells d 309):=f;rw [i] at a;injection a with a
  injection a with _ a
  exact j a.symm
theorem uR {g:TypeId} {size p l t:Nat} {f:q'} {i o:List Value} (h:W.ownsRow b E size (.slice A n c) n i) (q:W.ownsRow t g p (.slice f j l) j o) (r:E≠g) (m:W.grownBy W' (f.map (·.block))):W'.ownsRow b E size (.slice A n c) n i:=
 zI h λa s=>by
  obtain⟨w,v,k⟩:=jV h _ (by rw [s];rfl)
  refine m.block _ (jz k) (λe=> ?_);obtain⟨x,u,d⟩:=jV q _ e.symm;rw [k] at d;injection d with d
  injection d with _ ht
  exact r ht
structure Vc (w w':World) (g:Nat) (Ab Ab':q'):Prop where
 size:w.heap.size<=w'.heap.size
 heap: ∀k,k<w.heap.size->k≠g->Ab.map (·.block)≠some k->w'.heap[k]? =w.heap[k]?
 row: ∀k,Ab'.map (·.block)=some k->Ab.map (·.block)=some k\/w.heap.size<=k
theorem Vc.below (h:Below w w w'):Vc w w' g Ab Ab:=⟨h.size,λk a _ _=>h.block k a,λk a=> .inl a⟩
theorem Vc.grown (h:Vc w w' g Ab Ab) (b:w'.grownBy w2 (Ab.map (·.block))) (c:JU w' Ab Ab'):Vc w w2 g Ab Ab':=
 ⟨qv h.size b.size,λk a h1 h2=>(b.block k (qB a h.size) (λe=>h2 e.symm)).trans (h.heap k a h1 h2),λk a=>by
  rcases c with h0|h0
  ·exact .inl (h0▸a)
  ·rw [h0] at a
   injection a with a
   exact .inr (a▸h.size)⟩
theorem Vc.zh (h:Vc w w' g Ab Ab') (j:Nat) (u:Value):Vc w (w'.setCell ⟨g,j,none⟩ u) g Ab Ab':=
 ⟨by rw [zO];exact h.size,λk a h1 h2=>(jT w' ⟨g,j,none⟩ u k h1).trans (h.heap k a h1 h2),h.row⟩
def av (w:World) (base g k m ch:Nat) (j h:q') (no i at_:Nat) (l:qn) (f:List Nat) (a:qn) (e:Ending) (w':World):Prop:=
 ∃c d Ab' b n,e= .returned (.tuple #[.slice c (vR a).length d, .bool (Jd a)])/\w'.ownsRow w 5 1 (.slice c (vR a).length d) (vR a).length ((vR a).map B8)/\
  Rdr w' base g k m ch j no i Ab' b n (at_+1) l (f++(if Jd a=true then [] else [at_]))/\b<=at_+1/\Below base w w'/\Vc w w' g h Ab'
theorem oq:(prog.info? 3).map (λi=>(i.zero,i.size,i.bytes))=some (some (.int .i64 0),1,8):=AL
theorem O4 (base g k m ch no J d z at_:Nat) (F o A:Option Addr) (n c:Nat) (N f:List UInt8) (P:List Nat) (w:World) (ht:Tab w) (hR:Rdr w base g k m ch F no J o d z at_ N P) (hb:base<=w.heap.size) (hr:Reads w w 1 A n (f.map B8)) (I':n<=c) (G':c<=maxLen) (hn:n<=1000000000) (ha:at_<=1000000000) (N':d<=at_):
  Calls prog 236 #[.pointer g, .slice A n c] w (av w base g k m ch F o no J at_ N P f):=by
 have H:=qj (Vr A n c f w ht hr I' G' uK);unfold Qr at H;unfold av;have RG:Hid (∀W,Below w w W->Rdr W base g k m ch F no J o d z at_ N P):=λW L=>hR.below L;have G:Jd f=decide (QH f=0):=rfl;have M:=qj hb;clear hR hr ht;cases h:Jd f
 focus
  have y:QH f≠0:=of_decide_eq_false (G▸h);rw [qJ FV];generalize QH f=er at*
  have e1:(er==(0:Int))=false:=by simp [y]
  have e2:(er !=(0:Int))=true:=by simp [y]
  clear h G;generalize vR f=V at*
  obtain⟨i2,hj,p',iL,z'⟩:=qA oq;replace hj:=qj hj;replace p':=qj p';replace iL:=qj iL;replace z':=qj z';have N6:d+1<=maxLen:=SJ;have M':(d+1)*8<=140737488355328:=uK;clear y
 rotate_left
 focus have y:QH f=0:=xD (G▸h);rw [qk rfl,jx];rw [y] at H;clear h G y;generalize vR f=V at*
 rotate_left
 all_goals
  go_enter func236,ntmps236
  go_wp2_with fail;refine H.mono ?_;rintro e l ⟨O,I,rfl,t⟩;have a:=qj (RG.out l t.2);have r:=a.blk
 ·have c4:=r.cell 4;have X:=r.cell 5;have i:=qj t;have SB:Hid (∀W,Below l l W->W.cell? ⟨g,4,none⟩=some (.slice o d z)/\W.cell? ⟨g,5,none⟩=some (at_:Value)):=λW L=>⟨(a.below L).blk.cell 4,(a.below L).blk.cell 5⟩;clear r t
  go_wp2_with fail;refine zv 11 (λW=>W.cell? ⟨g,4,none⟩=some (.slice o d z)/\W.cell? ⟨g,5,none⟩=some (at_:Value)) AL ⟨c4,X⟩ (λZ=> ?_)
  refine zq [0,1,2,3,4,5] (a':= ?_) ?_;refine zq [6,7,8] (a':= ?_) ?_;have s:=qj (((qZ l l).drew).alloc (qx _) (.cells #[at_] 3));refine carried 9 rfl AL SQ (λK b=> ?_);go_simp;skip
  refine b _ _ ((SB.out _ s)) (λZ=> ?_);clear b K;try simp only [Act.put,qQ,qY,qV]
  have u:=a.below s.out;have q:=u.ob;have Y:base<=(l.drew.alloc (.cells #[at_] 3)).heap.size:=qv M (qv i.out.2.size s.size);replace u:=qj u;replace q:=qj q;refine QY 10 rfl AL (λK b=> ?_)
  (refine jm _ SQ _ _ _ SQ base 3 i2 () 1 8 jj hj p' iL z' rfl uK o d z _ SQ q (l.heap.size+1) _ 1 1 _ SQ (zU l.drew _ _) (one_one rfl) N6 M' Y ?_;intro E R B S x D';have v:Blk B g 309 _:=g_ u.blk q FV x)
  refine b _ _ (⟨v.cell 4,v.cell 5⟩) (λZ=> ?_);clear b K;try simp only [Act.put,qQ,qY,qV]
  have N9:=v.frozen 4;refine j4 11 rfl AL FV SQ (λK b=> ?_);go_simp;refine b _ _ ?_;clear b K;try simp only [Act.put,qQ,qY,qV]
  refine j4 12 rfl AL FV SQ (λK b=> ?_);go_simp;refine b _ _ ?_;clear b K;try simp only [Act.put,qQ,qY,qV]
  refine j4 13 rfl AL FV SQ (λK b=> ?_);go_simp;refine b _ _ ?_;clear b K;try simp only [Act.put,qQ,qY,qV]
  refine zV AL ?_ _;have m':Below base w B:=zG ((i.out.2.mono M).trans (s.mono (qv M i.out.2.size))) x q Y;have Q:Vc w B g o E:=(Vc.below (i.out.2.trans (s.mono i.out.2.size))).grown x D';have u':B.ownsRow base 5 1 (.slice F no J) no (N.map B8):=uR u.oo q FV x;have U:B.ownsRow w 5 1 (.slice O V I) V (V.map B8):=uR (qG i.out.1 s) q FV x;have D:=v.zh 4 (.slice E (d+1) R);have C:=qj D;have T:=qj v;have d':=qj a.ge;replace m':=qj m';replace Q:=qj Q;replace u':=qj u';replace U:=qj U;replace S:=qj S;have OX:=D.cell 5;have J':=D.frozen 5;clear Z c4 X SB u q x D' s Y v N9 D
  go_wp2_with fail
  go_ret2;refine⟨O,I,E,d+1,R,rfl, ?_,⟨?_,d'.out, ?_, ?_⟩,uK, ?_, ?_⟩
  ·exact Xr (Xr U T FV _) C FV _
  ·exact C.zh 5 _
  ·exact Xr (Xr u' T FV _) C FV _
  ·have h5:=Xr (j:=5) (Xr (j:=4) S T FV (.slice E (d+1) R)) C FV (.int .i64 ((at_:Int)+1))
   rw [qg];exact h5
  ·exact(m'.setCell (p:=⟨g,4,none⟩) d' _).setCell (p:=⟨g,5,none⟩) d' _
  ·exact(Q.zh _ _).zh _ _
 ·have X:=r.cell 5;have J':=r.frozen 5;have i:=qj t;clear r t
  go_wp2_with fail
  go_ret2;refine⟨O,I,o,d,z,rfl, ?_,⟨?_,a.ge,Xr a.oo a.blk FV _,Xr a.ob a.blk FV _⟩,uK, ?_, ?_⟩
  ·exact Xr i.out.1 a.blk FV _
  ·exact a.blk.zh 5 _
  ·exact(i.out.2.mono M).setCell (p:=⟨g,5,none⟩) a.ge _
  ·exact(Vc.below i.out.2).zh _ _
end
section
variable {A:q'}{L N S T base c ch d k m n t:Nat}{a w:World}{s:qn}
def VV (w:World) (v:qn) (a:List Nat) (f:Int) (e:Ending) (w':World):Prop:=
 ∃A c b d,e= .returned (.tuple #[.slice A v c, .slice b a d,f])/\Reads w' w' 1 A v (v.map B8)/\Reads w' w' 1 b a (a.map NV)/\Below w w w'
theorem VV.nil {w':World} {a:Int} (b:Below w w w'):VV w [] [] a (.returned (.tuple #[zn,zn,a])) w':=⟨_,0,_,0,rfl,Reads.none_,Reads.none_,b⟩
theorem bytes_beq (a b:qn):((⟨a.toArray⟩:ByteArray)==⟨b.toArray⟩)=decide (a=b):=by
 show(a.toArray==b.toArray)=_;rw [yx,yp,jo];exact⟨λh=>by simpa using zo Array.toList h,λh=>by rw [h]⟩
theorem gn {c d:ByteArray} {a b:qn} (e:(⟨a.toArray⟩:ByteArray)=c) (f:(⟨b.toArray⟩:ByteArray)=d):(c.toList==d.toList)=decide (a=b):=by
 rw [<-e,<-f,ByteArray.toList_eq,ByteArray.toList_eq,yx,yp,jo]
theorem Td (a:Shp k m ch n S d L N T) (b:s.length=T) (ht:t<S):(Q2 k m ch s t).length=k+m/\ ∀c∈Q2 k m ch s t,c.length=ch+4:=by
 refine⟨V4 .., ?_⟩;unfold Q2;refine uk ?_;have h1:=zk L (show t+1<=S from ht);have h2:=a.hT;rw [ql] at h1;rw [<-a.hL,qh,qI,b];omega
theorem ON (a:Shp k m ch n S d L N T) (c:s.length=T) (ht:t<S) (e:(Q6 (xL (Q2 k m ch s t)) (k+m)).length<k):csE k m (Q2 k m ch s t)=12:=by
 have b:=Td a c ht;unfold csE;rw [UP a.k1 rfl a.km b.1 b.2,qk e];rfl
theorem MT (a:Shp k m ch n S d L N T) (c:s.length=T) (ht:t<S) (e: ¬(Q6 (xL (Q2 k m ch s t)) (k+m)).length<k):Zm k m (ZY (Q2 k m ch s t)) (xL (Q2 k m ch s t))=0/\csE k m (Q2 k m ch s t)=if Ff (k+m) (xL (Q2 k m ch s t)) (ZY (Q2 k m ch s t)) (VG k m (ZY (Q2 k m ch s t)) (xL (Q2 k m ch s t)))=true then 2 else 0:=by
 have b:=Td a c ht;have h0:Zm k m (ZY (Q2 k m ch s t)) (xL (Q2 k m ch s t))=0:=by rw [UP a.k1 rfl a.km b.1 b.2,qJ e]
 refine⟨h0, ?_⟩;unfold csE;rw [qk h0]
theorem Om (a:Shp k m ch n S d L N T) (e:s.length=T) (ht:t<S) (h0:Zm k m (ZY (Q2 k m ch s t)) (xL (Q2 k m ch s t))=0):(csV k m (Q2 k m ch s t)).length=d:=by
 have c:=Td a e ht;have b:=eD a.k1 rfl a.km c.1 c.2 h0;unfold csV;rw [FP (L:=ch) _ (λx f=>b.2 x (j2 f)),qh,b.1,vZ uK,a.hd]
theorem nM (h: ∀i,i<t->csE k m (Q2 k m ch s i)=0) (a:csE k m (Q2 k m ch s t)≠0) (ht:t<S):rdE k m ch n S s=csE k m (Q2 k m ch s t)/\rdV k m ch n S s=[]/\rdB k m ch n S s=[]:=by
 have c:=br h a ht;have b:rdE k m ch n S s=csE k m (Q2 k m ch s t):=by
  unfold rdE;rw [c,qJ a]
 exact⟨b,by unfold rdV;rw [b,qJ a],by unfold rdB;rw [b,qJ a]⟩
theorem TD (h: ∀i,i<S->csE k m (Q2 k m ch s i)=0) (b:Gg n (Y4 k m ch s S)=true):rdE k m ch n S s=2/\rdV k m ch n S s=[]/\rdB k m ch n S s=[]:=by
 have a:rdE k m ch n S s=2:=by
  unfold rdE;rw [qk (kz h),qk b]
 exact⟨a,by unfold rdV;rw [a,qJ FV],by unfold rdB;rw [a,qJ FV]⟩
theorem Mw (h: ∀i,i<S->csE k m (Q2 k m ch s i)=0) (b:Gg n (Y4 k m ch s S)=false):rdE k m ch n S s=0/\rdV k m ch n S s=(Y4 k m ch s S).take n/\rdB k m ch n S s=Yu (ch+4) s (S*(k+m)):=by
 have a:rdE k m ch n S s=0:=by
  unfold rdE;rw [qk (kz h),qJ (by rw [b];decide)]
 exact⟨a,by unfold rdV;rw [qk a],by unfold rdB;rw [qk a]⟩
theorem Dr.own (h:Dr a w) {size n:Nat} {E:TypeId} {b:List Value} (d:a.ownsRow base E size (.slice A n c) n b):w.ownsRow base E size (.slice A n c) n b:=qG d (h.below _)
end
end Go.Proofs.YtfnlfpcfkbdcmaaGreatDoor
