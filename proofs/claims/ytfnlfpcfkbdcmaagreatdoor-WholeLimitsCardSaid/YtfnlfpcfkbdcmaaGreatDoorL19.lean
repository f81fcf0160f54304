import Derived.Test.YtfnlfpcfkbdcmaaGreatDoorL09
import Derived.Test.YtfnlfpcfkbdcmaaGreatDoorL17
import Derived.Lib.SlicesCompact
import Derived.Laws.Cover1
import Derived.ArgAppend
set_option linter.unusedSimpArgs false
set_option linter.unusedVariables false
set_option maxRecDepth 100000
set_option maxHeartbeats 0
open Go.Proofs.Tryz
namespace Go.Proofs.YtfnlfpcfkbdcmaaGreatDoor
def fI (c:UInt8):Option UInt8:=if 65<=c.toNat/\c.toNat<=90 then some (UInt8.ofNat (c.toNat+32)) else if(97<=c.toNat/\c.toNat<=122)\/(48<=c.toNat/\c.toNat<=57) then some c else none
def PS (row:qn) (a:List qn):List qn:=if row=[] then a else a++[row.take 24]
def fo:qn->qn->List (qn)->List qn
 |[],row,a=>PS row a
 |c::t,row,a=>match fI c with|some x=>fo t (row++[x]) a|none=>fo t [] (PS row a)
def hH (s:qn):List qn:=fo s [] []
def Pn (s:qn):List (qn)->List qn
 |[]=>[s]
 |x::t=>if x=s then x::t else if ltB s x=true then s::x::t else x::Pn s t
def Fb (l:List qn):List qn:=l.foldl (λo s=>Pn s o) []
def kp (r:Rec):List qn:=Fb (hH r.txt++(hH r.src).map (64:: ·))
def Y5 (l:List Rec):List qn:=Fb ((l.map kp).flatten)
def pF (t:qn):Nat->List Rec->List Nat
 |_,[]=>[]
 |i,r::l=>if t∈kp r then i::pF t (i+1) l else pF t (i+1) l
def P0 (l:List Rec):List qn×List (List Nat):=(Y5 l,(Y5 l).map λt=>pF t 0 l)
def Fh (size a:Nat) (x:List qn×List (List Nat)):qn:=gO size x.1++(x.2.map (FZ a)).flatten
def yR (c:Nat):Nat->qn->List (List Nat)->Int×List (List Nat)
 |0,b,a=>if b=[] then(0,a) else(2,[])
 |n+1,b,a=>
  let r:=dw c b
  if r.1≠0 then(r.1,[]) else if r.2.1=[] then(2,[]) else yR c n (b.drop r.2.2) (a++[r.2.1])
def Fs (size a:Int) (b:qn):Int×List qn×List (List Nat):=
 if a<0\/20000<a then(13,[],[])
 else
  let d:=D0 size b
  if d.1≠0 then(d.1,[],[])
  else
   let l:=yR a.toNat d.2.1.length (b.drop d.2.2) []
   if l.1≠0 then(l.1,[],[]) else(0,d.2.1,l.2)
structure Opt where
 blk:Int
 plain:Bool
 bkt:Int
 data:Int
 par:Int
 chunk:Int
 deriving DecidableEq
def vM (v:Int) (o:Opt):Int:=
 if v<1\/3<v then 4
 else if(16<=o.blk/\o.blk<=32768)/\(v=1/\o.bkt=0\/v≠1/\1<=o.bkt/\o.bkt<=64)/\(v≠3/\o.data=0/\o.par=0/\o.chunk=0\/v=3/\1<=o.data/\o.data<=255/\0<=o.par/\o.par<=255-o.data/\1<=o.chunk/\o.chunk<=4096) then 0 else 9
def J8 (o:Opt):Int:=vM 2 ⟨o.blk,o.plain,o.bkt,0,0,0⟩
structure Dir where
 counts:List Nat
 sizes:List Nat
 cols:Nat
 index:Nat
 deriving DecidableEq
def VU:List Nat->List Nat->qn
 |n::c,s::t=>xv n++xv s++VU c t
 |_,_=>[]
def Cz (d:Dir):qn:=xv d.counts.sum++xv d.counts.length++VU d.counts d.sizes++xv d.cols++xv d.index
def vF (a:Bool):List Nat->List Rec->List qn
 |[],_=>[]
 |n::c,l=>Fx (Zb false (l.take n)) a::vF a c (l.drop n)
def ZK (o:Opt) (l:List Rec):List Nat:=GX o.blk false l
def Hn (o:Opt) (l:List Rec):List qn:=vF o.plain (ZK o l) l
def P5 (l:List Rec):qn:=VY (ui l)
def YT (o:Opt) (l:List Rec):qn:=VY (Fh o.bkt.toNat l (P0 l))
def LK (o:Opt) (l:List Rec):Dir:=⟨ZK o l,(Hn o l).map (·.length),(P5 l).length,(YT o l).length⟩
def I4 (o:Opt) (l:List Rec):qn:=VY (Cz (LK o l))
def JT (o:Opt) (l:List Rec):qn:=(Hn o l).flatten++P5 l++YT o l++I4 o l++kv (I4 o l).length 4
def pg (b:qn):Int×qn×qn:=
 if b.length<4 then(1,[],[])
 else if b.length-4<vk (b.drop (b.length-4)) then(1,[],[])
 else(QH ((b.drop (b.length-4-vk (b.drop (b.length-4)))).take (vk (b.drop (b.length-4)))),b.take (b.length-4-vk (b.drop (b.length-4))),vR ((b.drop (b.length-4-vk (b.drop (b.length-4)))).take (vk (b.drop (b.length-4)))))
def Q7 (b:qn) (a:Nat):Nat->Cu->List Nat->List Nat->List Nat×List Nat×Cu
 |0,c,x,y=>(x,y,c)
 |f+1,c,x,y=>if c.err≠0 then(x,y,c) else Q7 b a f (jU b 8388608 (jU b a c).2).2 (x++[(jU b a c).1]) (y++[(jU b 8388608 (jU b a c).2).1])
def gi (b:qn) (a:Nat):Int×Dir:=
 let r:=jU b 20000 ⟨0,0⟩
 let k:=jU b r.1 r.2
 let p:=Q7 b r.1 k.1 k.2 [] []
 let c:=jU b 8388608 p.2.2
 let i:=jU b 8388608 c.2
 let d:Dir:=⟨p.1,p.2.1,c.1,i.1⟩
 if(PW b i.2).err≠0 then((PW b i.2).err,d)
 else if 0∈d.counts\/d.counts.sum≠r.1\/d.sizes.sum+d.cols+d.index≠a then(2,d) else(0,d)
structure ks where
 dir:Dir
 times:List Nat
 levels:qn
 vO:List qn
 lists:List (List Nat)
 JB:List qn
def dW:List Nat->qn->List qn
 |[],_=>[]
 |n::t,b=>b.take n::dW t (b.drop n)
def Zh (n:Nat) (chunk:qn):Int×List Nat×qn:=
 if QH chunk≠0 then(QH chunk,[],[])
 else
  let r:=ZG n (vR chunk)
  if r.1≠0 then(r.1,[],[]) else if r.2.2.2<(vR chunk).length then(2,[],[]) else(0,r.2.1,r.2.2.1)
def Zo (o:Opt) (b:qn):Int×ks:=
 let z:ks:=⟨⟨[],[],0,0⟩,[],[],[],[],[]⟩
 if J8 o≠0 then(J8 o,z)
 else
  let f:=pg b
  if f.1≠0 then(f.1,z)
  else
   let d:=gi f.2.2 f.2.1.length
   if d.1≠0 then(d.1,z)
   else
    let rest:=f.2.1.drop d.2.sizes.sum
    let c:=Zh d.2.counts.sum (rest.take d.2.cols)
    if c.1≠0 then(c.1,z)
    else if QH (rest.drop d.2.cols)≠0 then(QH (rest.drop d.2.cols),z)
    else
     let p:=Fs o.bkt d.2.counts.sum (vR (rest.drop d.2.cols))
     if p.1≠0 then(p.1,z)
     else(0,⟨d.2,c.2.1,c.2.2,p.2.1,p.2.2,dW d.2.sizes f.2.1⟩)
def tX (ts:List Nat) (ls:qn) (l:List Rec):List Rec:=l.mapIdx λi r=>{r with time:=ts.getD i 0,level:=(ls.getD i 0).toNat}
def V5 (x:ks) (k:Nat):Int×List Rec:=
 let f:=x.JB.getD k []
 let r:=Ft f
 if r.1≠0 then(r.1,[])
 else if r.2.2<f.length then(2,[])
 else
  let l:=hX false r.2.1
  if l.1≠0 then(l.1,[])
  else if l.2.length≠x.dir.counts.getD k 0 then(2,[])
  else(0,tX (x.times.drop (x.dir.counts.take k).sum) (x.levels.drop (x.dir.counts.take k).sum) l.2)
def VF (x:ks):Nat->Nat->List Rec->Int×List Rec
 |0,_,a=>if xu a≠0 then(6,[]) else if(x.vO,x.lists)≠P0 a then(15,[]) else(0,a)
 |f+1,k,a=>if(V5 x k).1≠0 then((V5 x k).1,[]) else VF x f (k+1) (a++(V5 x k).2)
def F2 (x:ks):Int×List Rec:=VF x x.JB.length 0 []
def DB (v:Nat):qn:=[70,73,82,75,UInt8.ofNat v]
def dJ (p:Bool):UInt8:=if p then 1 else 0
def Y6 (a:Bool):List Nat->List Rec->qn
 |[],_=>[]
 |n::c,l=>Fx (Zb true (l.take n)) a++Y6 a c (l.drop n)
def Xl (o:Opt) (l:List Rec):List Nat:=GX o.blk true l
def pG (o:Opt) (l:List Rec):qn:=VY (DB 1++xv o.blk.toNat++[dJ o.plain]++xv l.length++xv (Xl o l).length++Y6 o.plain (Xl o l) l)
def V6 (b:qn):Int:=if b.length<=4 then 1 else if b.take 4≠[70,73,82,75] then 3 else if 1<=(b.getD 4 0).toNat/\(b.getD 4 0).toNat<=3 then 0 else 4
def XQ (b:qn):Int:=if b.length<=4 then 0 else if b.take 4≠[70,73,82,75] then 0 else if 1<=(b.getD 4 0).toNat/\(b.getD 4 0).toNat<=3 then((b.getD 4 0).toNat:Int) else 0
def kj (b:qn):Int×qn:=
 if V6 b≠0 then(V6 b,[]) else if XQ b≠1 then(4,[]) else if QH b≠0 then(QH b,[]) else if(vR b).length<5 then(1,[]) else(0,(vR b).drop 5)
def ph (b:qn):Int×Opt×Nat×Nat×Cu:=
 let k:=jU b 32768 ⟨0,0⟩
 let p:=j_ b k.2
 let c:=if 1<p.1.toNat then vP p.2 2 else p.2
 let r:=jU b 20000 c
 let n:=jU b r.1 r.2
 let o:Opt:=⟨k.1,decide (p.1=1),0,0,0,0⟩
 (if n.2.err≠0 then n.2.err else vM 1 o,o,r.1,n.1,n.2)
def Vd (b:qn) (c:Cu):Int×List Rec×Cu:=
 let r:=Ft (b.drop c.at_)
 if r.1≠0 then(r.1,[],c)
 else
  let c2:=(jW b r.2.2 c).2
  let l:=hX true r.2.1
  if l.1≠0 then(l.1,[],c2) else if l.2=[] then(2,[],c2) else(0,l.2,c2)
def PN (b:qn) (d:Nat):Nat->Cu->List Rec->Int×List Rec
 |0,c,a=>if c.at_<b.length\/a.length≠d then(2,[]) else if xu a≠0 then(6,[]) else(0,a)
 |f+1,c,a=>if(Vd b c).1≠0 then((Vd b c).1,[]) else PN b d f (Vd b c).2.2 (a++(Vd b c).2.1)
def JZ (b:qn):Int×Opt×List Rec×Nat:=
 let z:Opt:=⟨0,false,0,0,0,0⟩
 let w:=kj b
 if w.1≠0 then(w.1,z,[],0)
 else
  let h:=ph w.2
  if h.1≠0 then(h.1,z,[],0)
  else
   let l:=PN w.2 h.2.2.1 h.2.2.2.1 h.2.2.2.2 []
   if l.1≠0 then(l.1,z,[],0) else(0,h.2.1,l.2,h.2.2.2.1)
def dI (o:Opt):qn:=VY (DB 2++xv o.blk.toNat++[dJ o.plain]++xv o.bkt.toNat)
def ky (o:Opt) (l:List Rec):qn:=dI o++JT o l
def Y7 (b:qn):Int×Opt×Nat:=
 let k:=jU b 32768 (jW b 5 ⟨0,0⟩).2
 let p:=j_ b k.2
 let c:=if 1<p.1.toNat then vP p.2 2 else p.2
 let q:=jU b 64 c
 let e:=(jW b 4 q.2).2
 let o:Opt:=⟨k.1,decide (p.1=1),q.1,0,0,0⟩
 if e.err≠0 then(e.err,o,0) else if QH (b.take e.at_)≠0 then(QH (b.take e.at_),o,0) else(vM 2 o,o,e.at_)
def Vh (b:qn):Int×Opt×ks:=
 let z:Opt:=⟨0,false,0,0,0,0⟩
 let y:ks:=⟨⟨[],[],0,0⟩,[],[],[],[],[]⟩
 if V6 b≠0 then(V6 b,z,y) else if XQ b≠2 then(4,z,y)
 else
  let r:=Y7 b
  if r.1≠0 then(r.1,z,y)
  else
   let x:=Zo r.2.1 (b.drop r.2.2)
   if x.1≠0 then(x.1,z,y) else(0,r.2.1,x.2)
def Zk (x:Int×Opt×ks):Int×Opt×List Rec×Nat:=
 let z:Opt:=⟨0,false,0,0,0,0⟩
 if x.1≠0 then(x.1,z,[],0)
 else
  let l:=F2 x.2.2
  if l.1≠0 then(l.1,z,[],0) else(0,x.2.1,l.2,x.2.2.dir.counts.length)
def Uu (o:Opt) (n:Nat) (a:Bool):qn:=VY (DB 3++[dJ a,UInt8.ofNat o.bkt.toNat,UInt8.ofNat o.data.toNat,UInt8.ofNat o.par.toNat]++kv o.chunk.toNat 2++kv o.blk.toNat 2++kv n 4)
def dL (o:Opt) (n:Nat) (a:qn):qn:=Uu o n o.plain++a++Uu o n o.plain
def Sb (o:Opt) (n:Nat):Int:=ZM o.data o.par o.chunk n
def kQ (o:Opt) (l:List Rec):qn:=dL o (JT o l).length (R_ o.data.toNat o.par.toNat o.chunk.toNat (JT o l))
def Zj (b:qn):qn:=b.take 21
def Jw (b:qn):qn:=b.drop (b.length-21)
def Qw (c:qn):Bool:=decide (QH c=0)&&(decide (V6 c=0)&&decide (XQ c=3))
def UN (b:qn):Int×qn:=if b.length<42 then(1,[]) else if Qw (Zj b)=true then(0,Zj b) else if Qw (Jw b)=true then(0,Jw b) else(5,[])
def YX (c:qn):Opt:=⟨vk ((c.drop 11).take 2),decide (c.getD 5 0=1),(c.getD 6 0).toNat,(c.getD 7 0).toNat,(c.getD 8 0).toNat,vk ((c.drop 9).take 2)⟩
def dk (c:qn):Int:=if 1<(c.getD 5 0).toNat then 2 else vM 3 (YX c)
def dM (c:qn):Nat:=vk ((c.drop 13).take 4)
def srE (k m ch n:Int) (s:qn):Int:=
 if ZM k m ch n≠0 then ZM k m ch n
 else if s.length<Vx k m ch n then 1 else if Vx k m ch n<s.length then 2
 else rdE k.toNat m.toNat ch.toNat n.toNat (YA (k.toNat*ch.toNat) n.toNat) s
def srV (k m ch n:Int) (s:qn):qn:=rdV k.toNat m.toNat ch.toNat n.toNat (YA (k.toNat*ch.toNat) n.toNat) s
def srB (k m ch n:Int) (s:qn):List Nat:=rdB k.toNat m.toNat ch.toNat n.toNat (YA (k.toNat*ch.toNat) n.toNat) s
def gp (b:qn):Bool:=Hf (YX (UN b).2).data.toNat (YX (UN b).2).par.toNat (YX (UN b).2).chunk.toNat (YA ((YX (UN b).2).data.toNat*(YX (UN b).2).chunk.toNat) (dM (UN b).2)) ((b.drop 21).take (b.length-42))
def V7 (b:qn):Int×Opt×qn×Nat:=
 let z:Opt:=⟨0,false,0,0,0,0⟩
 let c:=UN b
 if c.1≠0 then(c.1,z,[],0)
 else if dk c.2≠0 then(dk c.2,z,[],0)
 else
  let o:=YX c.2
  let s:=(b.drop 21).take (b.length-42)
  if srE o.data o.par o.chunk (dM c.2:Nat) s≠0 then(srE o.data o.par o.chunk (dM c.2:Nat) s,z,[],0)
  else(0,o,srV o.data o.par o.chunk (dM c.2:Nat) s,(srB o.data o.par o.chunk (dM c.2:Nat) s).length+(if Zj b=Jw b then 0 else 1))
def ZX (b:qn):Int×Opt×ks×Nat:=
 let z:Opt:=⟨0,false,0,0,0,0⟩
 let y:ks:=⟨⟨[],[],0,0⟩,[],[],[],[],[]⟩
 let m:=V7 b
 if m.1≠0 then(m.1,z,y,0)
 else
  let x:=Zo m.2.1 m.2.2.1
  if x.1≠0 then(x.1,z,y,0) else(0,m.2.1,x.2,m.2.2.2)
def X0 (b:qn):Int×Opt×List Rec×Nat×Nat:=
 let u:=Zk ((ZX b).1,(ZX b).2.1,(ZX b).2.2.1)
 (u.1,u.2.1,u.2.2.1,u.2.2.2,if u.1=0 then(ZX b).2.2.2 else 0)
def dp (b:qn):Bool:=decide ((UN b).1=0)
def Z7 (b:qn):Int:=if XQ b=1\/XQ b=2 then XQ b else if dp b=true then 3 else 0
def YU (b:qn):Int:=if XQ b=1\/XQ b=2 then 0 else if dp b=true then 0 else if XQ b=3 then 5 else V6 b
structure Un where
 v:Int
 o:Opt
 l:List Rec
 blocks:Nat
 bad:Nat
def QW (b:qn):Int:=if Z7 b=1 then(JZ b).1 else if Z7 b=2 then(Zk (Vh b)).1 else if Z7 b=3 then(X0 b).1 else YU b
def xX (b:qn):Un:=
 if Z7 b=1 then⟨1,(JZ b).2.1,(JZ b).2.2.1,(JZ b).2.2.2,0⟩
 else if Z7 b=2 then⟨2,(Zk (Vh b)).2.1,(Zk (Vh b)).2.2.1,(Zk (Vh b)).2.2.2,0⟩
 else⟨3,(X0 b).2.1,(X0 b).2.2.1,(X0 b).2.2.2.1,(X0 b).2.2.2.2⟩
theorem IQ (x y:UInt8):x<y\/x=y\/y<x:=by
 rcases Nat.lt_trichotomy x.toNat y.toNat with h|h|h
 ·exact .inl (UInt8.lt_iff_toNat_lt.2 h)
 ·exact .inr (.inl (jG.1 h))
 ·exact .inr (.inr (UInt8.lt_iff_toNat_lt.2 h))
theorem Cj (a:qn):ltB a []=false:=by cases a<;>rfl
theorem pH (x y:UInt8) (a b:qn):ltB (x::a) (y::b)=true↔x<y\/x=y/\ltB a b=true:=by
 rw [ltB];simp
theorem kZ: ∀a:qn,ltB a a=false
 |[]=>rfl
 |x::a=>by
  have h:=kZ a;rw [Bool.eq_false_iff,ne_eq,pH];rintro(h1|⟨_,h1⟩)
  ·exact absurd h1 (UInt8.lt_irrefl x)
  ·rw [h] at h1;cases h1
theorem PU: ∀a b c:qn,ltB a b=true->ltB b c=true->ltB a c=true
 |a,b,[],_,h=>by rw [Cj] at h;cases h
 |a,[],z::c,h,_=>by rw [Cj] at h;cases h
 |[],y::b,z::c,_,_=>rfl
 |x::a,y::b,z::c,h1,h2=>by
  rw [pH] at h1 h2⊢;rcases h1 with h1|⟨rfl,h1⟩<;>rcases h2 with h2|⟨rfl,h2⟩
  ·exact .inl (UInt8.lt_trans h1 h2)
  ·exact .inl h1
  ·exact .inl h2
  ·exact .inr ⟨rfl,PU a b c h1 h2⟩
theorem kJ: ∀a b:qn,ltB a b=true\/a=b\/ltB b a=true
 |[],[]=> .inr (.inl rfl)
 |[],_::_=> .inl rfl
 |_::_,[]=> .inr (.inr rfl)
 |x::a,y::b=>by
  rw [pH,pH];rcases IQ x y with h|rfl|h
  ·exact .inl (.inl h)
  ·rcases kJ a b with h|rfl|h
   ·exact .inl (.inr ⟨rfl,h⟩)
   ·exact .inr (.inl rfl)
   ·exact .inr (.inr (.inr ⟨rfl,h⟩))
  ·exact .inr (.inr (.inl h))
theorem UU {a b:qn} (h:ltB a b=true):ltB b a=false:=by
 rw [Bool.eq_false_iff];intro h2;have:=PU _ _ _ h h2;rw [kZ] at this;cases this
theorem WQ: ∀a b:qn,ltB a b=true↔a<b
 |a,[]=>by rw [Cj];simp
 |[],y::b=>by simp [ltB]
 |x::a,y::b=>by rw [pH,List.cons_lt_cons_iff,WQ a b]
theorem Cx (a b:qn):decide (a<=b)= !ltB b a:=by
 have h:a<=b↔ ¬(b<a):=Iff.rfl;rw [<-WQ] at h;cases c:ltB b a with
 |false=>rw [c] at h;exact qw (h.2 FV)
 |true=>rw [c] at h;exact qc (λh2=>h.1 h2 rfl)
def SS (l:List qn):Prop:=l.Pairwise λa b=>ltB a b=true
theorem FH (s x:qn): ∀l,x∈Pn s l↔x=s\/x∈l
 |[]=>by simp [Pn]
 |y::t=>by
  unfold Pn;split
  ·rename_i h;subst h;simp
  ·split
   ·simp
   ·rw [qL,FH s x t,qL]
    constructor
    ·rintro(h|h|h)
     ·exact .inr (.inl h)
     ·exact .inl h
     ·exact .inr (.inr h)
    ·rintro(h|h|h)
     ·exact .inr (.inl h)
     ·exact .inl h
     ·exact .inr (.inr h)
theorem WZ (s:qn): ∀l,SS l->SS (Pn s l)
 |[],_=>by simp [Pn,SS]
 |y::t,h=>by
  have h2:=vj.1 h;unfold Pn;split
  ·exact h
  ·rename_i c
   split
   ·rename_i b
    refine vj.2 ⟨λz a=> ?_,h⟩;rcases qL.1 a with rfl|a
    ·exact b
    ·exact PU _ _ _ b (h2.1 z a)
   ·rename_i b
    refine vj.2 ⟨λz a=> ?_,WZ s t h2.2⟩;rcases(FH s z t).1 a with rfl|a
    ·rcases kJ y z with h|h|h
     ·exact h
     ·exact absurd h c
     ·exact absurd h b
    ·exact h2.1 z a
theorem iZ (l:List qn): ∀o,SS o->SS (l.foldl (λo s=>Pn s o) o)/\ ∀x,x∈l.foldl (λo s=>Pn s o) o↔x∈o\/x∈l:=by
 induction l with
 |nil=>intro o h;exact⟨h,λx=>s8⟩
 |cons a l b=>
  intro o h;have h2:=b _ (WZ a o h);refine⟨h2.1,λx=> ?_⟩;show x∈l.foldl _ (Pn a o)↔_;rw [h2.2 x,FH,qL];constructor
  ·rintro((h|h)|h)
   ·exact .inr (.inl h)
   ·exact .inl h
   ·exact .inr (.inr h)
  ·rintro(h|h|h)
   ·exact .inl (.inr h)
   ·exact .inl (.inl h)
   ·exact .inr h
theorem Cv (l:List qn):SS (Fb l):=(iZ l _ List.Pairwise.nil).1
theorem Ud (l:List qn) (x:qn):x∈Fb l↔x∈l:=by
 have:=(iZ l _ List.Pairwise.nil).2 x;unfold Fb;rw [this];simp
theorem Cy: ∀l m:List qn,SS l->SS m->(∀x,x∈l↔x∈m)->l=m
 |[],[],_,_,_=>rfl
 |[],b::m,_,_,h=>by have:=(h b).2 (qo ..);cases this
 |a::l,[],_,_,h=>by have:=(h a).1 (qo ..);cases this
 |a::l,b::m,h1,h2,h=>by
  have d:=vj.1 h1;have f:=vj.1 h2;have n:a=b:=by
   rcases qL.1 ((h a).1 (qo ..)) with e|i
   ·exact e
   ·rcases qL.1 ((h b).2 (qo ..)) with e|j
    ·exact e.symm
    ·have k:=f.1 a i
     have g:=UU (d.1 b j);rw [k] at g;cases g
  subst n;rw [Cy l m d.2 f.2 (λx=> ?_)];constructor
  ·intro c
   rcases qL.1 ((h x).1 (qM _ c)) with rfl|h3
   ·have:=d.1 x c;rw [kZ] at this;cases this
   ·exact h3
  ·intro c
   rcases qL.1 ((h x).2 (qM _ c)) with rfl|h3
   ·have:=f.1 x c;rw [kZ] at this;cases this
   ·exact h3
theorem WJ (l:List qn):(l.mergeSort λx y=>decide (x<=y)).Pairwise λa b=>ltB b a=false:=by
 have h:=List.pairwise_mergeSort (le:=λx y:qn=>decide (x<=y)) (λa b c h1 h2=>by
  rw [Cx] at h1 h2⊢;cases e:ltB c a
  ·rfl
  ·exfalso;rcases kJ a b with h|rfl|h
   ·have:=PU _ _ _ e h;rw [this] at h2;cases h2
   ·rw [e] at h2;cases h2
   ·rw [h] at h1;cases h1) (λa b=>by
  rw [Cx,Cx];cases d:ltB b a
  ·rfl
  ·rw [UU d];rfl) l
 refine h.imp λ{a b} h2=> ?_;rw [Cx] at h2;cases d:ltB b a
 ·rfl
 ·rw [d] at h2;cases h2
theorem eG (l:List qn) (x:qn):x∈(l.mergeSort λx y=>decide (x<=y))↔x∈l:=(List.mergeSort_perm l _).mem_iff
theorem mK (l m:List qn) (c:l.Nodup) (h: ∀x,x∈l↔x∈m):(l.mergeSort λx y=>decide (x<=y))=Fb m:=by
 refine Cy _ _ ?_ (Cv m) (λx=>by rw [eG,Ud,h]);have d:(l.mergeSort λx y=>decide (x<=y)).Nodup:=(List.mergeSort_perm l _).nodup_iff.2 c;have:=List.Pairwise.and (WJ l) d;refine this.imp λ{a b} h2=> ?_;rcases kJ a b with h3|h3|h3
 ·exact h3
 ·exact absurd h3 h2.2
 ·rw [h2.1] at h3;cases h3
theorem mP {l:List qn} (h:l.Pairwise λa b=>ltB b a=false) {i j:Nat} (c:i<j) (d:j<l.length):ltB l[j] (l[i]'uK)=false:=Jg.1 h i j _ d c
theorem tV (l:List qn) (e:l.Pairwise λa b=>ltB b a=false): ∀m,m<=l.length->SS (Go.Lib.compactUpTo l.toArray m)/\(∀x,x∈Go.Lib.compactUpTo l.toArray m↔x∈l.take m):=by
 intro m;induction m with
 |zero=>intro _;exact⟨by simp [SS,Go.Lib.compactUpTo],λx=>by simp [Go.Lib.compactUpTo]⟩
 |succ m r=>
  intro w;obtain⟨h1,h2⟩:=r uK;have d:l.toArray[m]! =l[m]:=by simp [qX (show m<l.length by omega)]
  have t:l.take (m+1)=l.take m++[l[m]]:=by rw [qs,qX uK];rfl
  rw [Go.Lib.compactUpTo_succ,t,d];have u: ∀x,x∈l.take m->ltB l[m] x=false:=λx v=>by
   obtain⟨i,hi,rfl⟩:=List.mem_iff_getElem.1 v;rw [qh] at hi;rw [List.getElem_take];exact mP e uK _
  by_cases c:Go.Lib.keeps l.toArray m=true
  ·rw [qk c];refine⟨List.pairwise_append.2 ⟨h1,List.pairwise_singleton _ _,λa q b k=> ?_⟩,λx=>by rw [zt,zt,h2]⟩;rw [qy] at k;subst k;have f:=(h2 a).1 q;rcases kJ a l[m] with h3|h3|h3
   ·exact h3
   ·exfalso;have n:m≠0:=by rintro rfl;simp at f
    have g:l.toArray[m]! ≠l.toArray[m-1]! :=by
     unfold Go.Lib.keeps at c;rcases xD c with h|h
     ·exact absurd h n
     ·exact h
    have j:l.toArray[m-1]! =l[m-1]:=by simp [qX (show m-1<l.length by omega)]
    rw [d,j] at g;obtain⟨i,hi,rfl⟩:=List.mem_iff_getElem.1 f;rw [qh] at hi;rw [List.getElem_take] at h3;rcases jE i (m-1) with h5|h5
    ·have o:=mP e h5 uK;have s:=mP e (show m-1<m by omega) uK;rcases kJ l[m] l[m-1] with h6|h6|h6
     ·rw [s] at h6;cases h6
     ·exact g h6
     ·rw [h3] at o;rw [o] at h6;cases h6
    ·obtain rfl:i=m-1:=uK;exact g h3.symm
   ·rw [u a f] at h3;cases h3
  ·rw [qJ c,jx];refine⟨h1,λx=> ?_⟩;rw [h2,zt,qy];refine⟨.inl, ?_⟩;rintro(h|rfl)
   ·exact h
   ·have n:m≠0:=by
     rintro rfl;exact c (Go.Lib.keeps_lt_one _ 0 uK)
    have p:l.toArray[m]! =l.toArray[m-1]! :=by
     rcases Classical.em (l.toArray[m]! =l.toArray[m-1]!) with h|h
     ·exact h
     ·exact absurd (Go.Lib.keeps_pos h) c
    have j:l.toArray[m-1]! =l[m-1]:=by simp [qX (show m-1<l.length by omega)]
    rw [d,j] at p;rw [p];exact List.mem_iff_getElem.2 ⟨m-1,by rw [qh];omega,by rw [List.getElem_take]⟩
theorem eh (l:List qn):Go.Lib.compact (l.mergeSort λx y=>decide (x<=y))=Fb l:=by
 have h:=tV _ (WJ l) _ (qx _);refine Cy _ _ h.1 (Cv l) (λx=> ?_);have:=h.2 x;rw [jP] at this;unfold Go.Lib.compact;rw [this,eG,Ud]
def V8 (a:qn) (first:Bool) (n:Nat) (r:qn×Cu):qn×Cu:=
 if r.2.err≠0 then([],r.2) else(a.take n++r.1,if r.1=[]\/dm a (a.take n++r.1)=false\/(first=false/\kB a (a.take n++r.1)≠n) then vP r.2 2 else r.2)
theorem tY (b a:qn) (c:Cu):JE b a true c=V8 a true 0 (xa b 25 c):=rfl
theorem eH (b a:qn) (c:Cu):JE b a false c=V8 a false (jU b (a.length:Nat) c).1 (xa b 25 (jU b (a.length:Nat) c).2):=rfl
section
open Go.RowKit
variable {A:q'}{N cap gc go n rc:Nat}{P:Program}{W W':World}{b:qn}{bk:Int}{bsl:Value}{c c':Cu}{pl:Bool}
theorem XJ:(prog.info? 9).map (λi=>(i.zero,i.size,i.bytes))=some (some (.string "".toUTF8),1,16):=AL
theorem Yw (S:ByteArray) (s:qn) (b:S=⟨s.toArray⟩) (n:Nat) (h:n<s.length) (W:World):(Instr.index 9 (.string S) n).run prog W= .ok (.int .u8 (s[n].toNat:Int)) W:=by
 subst b;have a:(ByteArray.mk s.toArray).size=s.length:=by simp [ByteArray.size]
 rw [run_index_string (h:=ju),dif_pos ⟨uK,by rw [a];omega⟩];rfl
theorem CX (S:ByteArray) (s:qn) (b:S=⟨s.toArray⟩) (n:Nat) (h:n<=s.length) (W:World):(Instr.slice 9 (.string S) (some (n:Value)) none none).run prog W= .ok (.string ⟨(s.drop n).toArray⟩) W:=by
 subst b;have a:(ByteArray.mk s.toArray).size=s.length:=by simp [ByteArray.size]
 rw [run_slice_string_from_if (h:=ju),qk ⟨uK,by rw [a];omega⟩,zc];have e:(ByteArray.mk s.toArray).extract n (ByteArray.mk s.toArray).size=⟨(s.drop n).toArray⟩:=by
  apply ByteArray.ext;rw [ByteArray.data_extract,a];simp;rw [qH (by rw [qI];exact qx _)]
 rw [e]
theorem tu (S:ByteArray) (s:qn) (b:S=⟨s.toArray⟩) (n:Nat) (h:n<=s.length) (W:World):(Instr.slice 9 (.string S) none (some (n:Value)) none).run prog W= .ok (.string ⟨(s.take n).toArray⟩) W:=by
 subst b;have a:(ByteArray.mk s.toArray).size=s.length:=by simp [ByteArray.size]
 rw [run_slice_string_to_if (h:=ju),qk ⟨uK,by rw [a];omega⟩,zc];have e:(ByteArray.mk s.toArray).extract 0 n=⟨(s.take n).toArray⟩:=by
  apply ByteArray.ext;rw [ByteArray.data_extract];simp
 rw [e]
theorem pC (x y:qn) (b:x.length<=1000000) (a:y.length<=1000000) (w:World):(Op.stringOp .add ⟨x.toArray⟩ ⟨y.toArray⟩).run P w= .ok (.string ⟨(x++y).toArray⟩) w:=by
 have e:(ByteArray.mk x.toArray)++(ByteArray.mk y.toArray)=⟨(x++y).toArray⟩:=by
  apply ByteArray.ext;rw [ByteArray.data_append];simp
 rw [<-e];exact run_string_add_sum w _ _ (by simp [ByteArray.size];omega)
theorem WX (t e:TypeId) (i:TypeInfo) (s:Nat) (ht:P.underlying t=some (.slice e)) (hi:P.info? e=some i) (d:i.size=s) (A:q') (n c h:Nat) (kh:IntKind) (g:h<=c) (W:World):
  (Instr.slice t (.slice A n c) none (some (.int kh (h:Int))) none).run P W= .ok (.slice A h c) W:=by
 have b:P.elem t=e:=by simp [Program.elem,ht]
 rw [run_slice_h (a:=A) (len:=n) (cap:=c) (ht:=by rw [b];exact ht) (kh:=kh) (h:=(h:Int)) (h0:=by omega) (h2:=by omega),b];have f:(sizeOf e).run P W= .ok s W:=by simp [sizeOf,typeInfo,hi,d]
 rw [f];have h0: ∀a:Addr,a.add 0=a:=λa=>by unfold Addr.add;split<;>simp_all
 cases A<;>simp [Result.andThen,sliced,h0]
theorem P6: ∀a b:qn,Op.bytesLess a b=ltB a b
 |[],[]=>rfl
 |_::_,[]=>rfl
 |[],_::_=>rfl
 |x::a,y::b=>by
  rw [Op.bytesLess,ltB,P6 a b];by_cases h:x=y<;>simp [h]
theorem SE (a b:qn) (n:Nat) (c:n<a.length) (d:n<b.length):kB (a.drop n) (b.drop n)=if a[n]=b[n] then kB (a.drop (n+1)) (b.drop (n+1))+1 else 0:=by
 rw [zK c,zK d];rfl
theorem mG (a:qn):kB a []=0:=by cases a<;>rfl
theorem WV: ∀a b:qn,kB a b<=a.length/\kB a b<=b.length
 |[],b=>by cases b<;>simp [kB]
 |x::a,[]=>by simp [kB]
 |x::a,y::b=>by
  have:=WV a b;unfold kB;split
  ·simp;omega
  ·simp
theorem kV (a b:qn) (w:World) (D:a.length<=1000000000) (E:b.length<=1000000000):
  Calls prog 179 #[STR a,STR b] w λe w'=>e= .returned (.int .i64 (kB a b:Nat))/\Dr w w':=by
 obtain⟨R,m⟩:=j1 (kB a b);rw [<-m];replace m:Hid (kB (a.drop 0) (b.drop 0)+0=R):=m.symm;obtain⟨p,o⟩: ∃p:ByteArray,p=⟨a.toArray⟩:=⟨_,rfl⟩;obtain⟨q,r⟩: ∃q:ByteArray,q=⟨b.toArray⟩:=⟨_,rfl⟩;have B:p.size=a.length:=by rw [o];simp [ByteArray.size]
 have F:q.size=b.length:=by rw [r];simp [ByteArray.size]
 have z:=qj (λn h W=>Yw p a o n h W);have C:=qj (λn h W=>Yw q b r n h W);unfold STR;rw [<-o,<-r];obtain⟨c,g⟩:=j1 a.length;obtain⟨lb,f⟩:=j1 b.length;rw [<-g] at B D;rw [<-f] at F E;replace g:=qj g;replace f:=qj f;clear o r;go_wp2;go_loopw [5] (λv wr=> ∃n:Nat,v=(n:Value)/\n<=c/\n<=lb/\Hid (kB (a.drop n) (b.drop n)+n=R)/\Hid (Dr w wr)) (λv _=>c-(intOf v).toNat)
 ·exact⟨0,rfl,qp _,qp _,m,Dr.refl _⟩
 ·obtain⟨n,rfl,I,L,i,s⟩:=hrel;by_cases h1:n<c
  focus
   have H:=j' n c;by_cases h2:n<lb
   focus
    have G:=j' n lb;have K:=z n (g.out▸h1);have M:=C n (f.out▸h2);have j:=i.out;rw [SE a b n (g.out▸h1) (f.out▸h2)] at j;generalize a[n]'(g.out▸h1)=x,b[n]'(f.out▸h2)=y at*;by_cases t:x=y
    ·subst t;rw [qk rfl] at j;replace j:Hid (kB (a.drop (n+1)) (b.drop (n+1))+(n+1)=R):=by rw [Hid];omega
     clear i;go_wp2;go_quiet (fail);have d:Hid (Dr w (wr.drewN nq)):=s.drewN _;generalize wr.drewN nq=u at*;go_wp2_with fail;refine xk ?_;exact⟨n+1,xb,uK,uK,j,d⟩
    focus
     rw [qJ t] at j;have k:Hid (R=n):=by rw [Hid];omega
     have A:((x.toNat:Int)==(y.toNat:Int))=false:=by rw [zE];exact λh=>t (jG.1 uK)
     clear i
   rotate_left
   focus
    have k:Hid (R=n):=by rw [Hid,<-i.out,zD (l:=b) (by rw [<-f.out];omega),mG];omega
    clear i
  rotate_left 2
  focus
   have k:Hid (R=n):=by rw [Hid,<-i.out,zD (l:=a) (by rw [<-g.out];omega)];cases b.drop n<;>simp [kB]
   clear i
  all_goals
   go_wp2;go_quiet (fail);have d:Hid (Dr w (wr.drewN nq)):=s.drewN _;generalize wr.drewN nq=u at*;go_wp2;go_ret;exact⟨by rw [k.out];rfl,d⟩
theorem pA (a s:qn) (w:World):
  Calls prog 177 #[STR a,STR s] w λe w'=>e= .returned (.bool (dm a s))/\w=w':=by
 obtain⟨f,g⟩: ∃f:ByteArray,f=⟨a.toArray⟩:=⟨_,rfl⟩;obtain⟨b,c⟩: ∃b:ByteArray,b=⟨s.toArray⟩:=⟨_,rfl⟩;have o:b.size=s.length:=by rw [c];simp [ByteArray.size]
 have m:f.toList=a:=by rw [g,Ja]
 have n:b.toList=s:=by rw [c,Ja]
 have d:Hid ((!(Op.bytesLess s a||s==a))=ltB a s):=by
  rw [Hid,P6];rcases kJ a s with h|rfl|h
  ·have j:s≠a:=by rintro rfl;rw [kZ] at h;cases h
   rw [UU h,h,Bool.false_or,zE.2 j];rfl
  ·rw [kZ];simp
  ·rw [UU h,h];rfl
 unfold STR;rw [<-g,<-c];clear g c;unfold dm;by_cases h0:s=[]
 focus
  have i:(s==([]:qn))=true:=by simpa using h0
  rw [qc (show¬s≠[] by simpa using h0),Bool.false_and]
 rotate_left
 focus
  have i:(s==([]:qn))=false:=by simpa using h0
  rw [qw h0,Bool.true_and];by_cases h1:s.length<=25
  ·have k:(s.length:Int)<=25:=uK;rw [qw h1,Bool.true_and,<-d.out];clear h0;generalize p:Op.bytesLess s a=x,l:(s==a)=y at*;cases x<;>cases y<;>(go_wp2;go_ret;exact⟨rfl,rfl⟩)
  focus
   have k: ¬(s.length:Int)<=25:=uK;rw [qc h1,Bool.false_and]
 all_goals
  clear h0;go_wp2;go_ret;exact⟨yb,rfl⟩
theorem CV (a:qn) (l:List qn) (k:Nat) (b:k<l.length):XO a (l.drop k)=(dm a l[k]&&XO l[k] (l.drop (k+1))):=by
 rw [zK b];rfl
theorem GC (A:q') (c B:Nat) (l:List qn) (w:World) (h:Reads w B 1 A l (l.map STR)) (q:l.length<=1000000000):
  Calls prog 126 #[.slice A l c] w λe w'=>e= .returned (.bool (Gf l))/\w=w':=by
 have H:=qj h;obtain⟨R,f⟩:=j1 (XO [] l);unfold Gf;rw [<-f];replace f:Hid (XO [] (l.drop 0)=R):=f.symm;obtain⟨N,d⟩:=j1 l.length;rw [<-d] at q H⊢;replace d:=qj d;clear h;go_wp2;go_loopw [3,8] (λt j wr=> ∃(k:Nat) (b:qn),t= .string ⟨b.toArray⟩/\j=(k:Value)/\k<=N/\Hid (XO b (l.drop k)=R)/\wr=w) (λ_ j _=>N-(intOf j).toNat)
 ·exact⟨0,[],by first|rfl|decide,rfl,qp _,f,rfl⟩
 ·obtain⟨k,b,rfl,rfl,F,g,rfl⟩:=hrel;by_cases p:k<N
  ·have E:=j' k N;have C:=xi k;obtain⟨D,u,rfl,-,i,r⟩:=H.at_ p;have o:k<l.length:=by rw [<-d.out];exact p
   rw [qD,qX o] at i;have a:=g.out;rw [CV _ _ _ o] at a;have m:=qj (pA b l[k] wr);generalize l[k]=x at*;have s:=(zy i).symm;subst s;unfold STR at r m;replace a:=qj a;clear i g;generalize dm b x=z at*;cases z with
   |false=>
    have n:Hid (R=false):=by rw [Hid,<-a.out];rfl
    go_wp2_with fail;refine Ω m ?_;go_wp2;go_ret;exact⟨by rw [n.out];rfl,rfl⟩
   |true=>
    have v:Hid (XO x (l.drop (k+1))=R):=by rw [Hid,<-a.out];rfl
    go_wp2_with fail;refine Ω m ?_;go_wp2_with fail;refine xk ?_;exact⟨k+1,x,xb,xh,uK,v,y'⟩
  ·obtain rfl:k=N:=uK;have n:Hid (R=true):=by rw [Hid,<-g.out,zD (by rw [d.out];omega)];rfl
   clear g;go_wp2;go_ret;exact⟨by rw [n.out];exact j7 (by rw [Bool.true_and];exact decide_eq_decide.2 uK),rfl⟩
theorem VT (v b k d q c:Int) (p:Bool):chk v b k d q c=vM v ⟨b,p,k,d,q,c⟩:=by
 unfold chk vM;by_cases f:v<1\/3<v
 ·rw [qk f,qk f]
 ·rw [qJ f,qJ f];have h:v=1\/v=2\/v=3:=uK;unfold stp Vp;dsimp only;by_cases g:16<=b/\b<=32768
  ·rw [qw g,qJ s8];rcases h with rfl|rfl|rfl
   ·rw [qk rfl];by_cases a:k=0/\d=0/\q=0/\c=0
    ·rw [qk a,qk uK]
    ·rw [qJ a,qJ uK]
   ·rw [qJ FV];by_cases e:1<=k/\k<=64
    ·rw [qw e,qJ s8,qk rfl];by_cases a:d=0/\q=0/\c=0
     ·rw [qk a,qk uK]
     ·rw [qJ a,qJ uK]
    ·rw [qc e,qk rfl,qJ uK]
   ·rw [qJ FV];by_cases e:1<=k/\k<=64
    ·rw [qw e,qJ s8,qJ FV];by_cases a:(1<=d/\d<=255)/\(0<=q/\q<=255-d)/\(1<=c/\c<=4096)
     ·rw [qw a.1,qw a.2.1,qw a.2.2,qk (show(true&&(true&&true))=true from rfl),qk uK]
     ·rw [qJ (by simp only [zR,zd];exact a),qJ uK]
    ·rw [qc e,qk rfl,qJ uK]
  ·rw [qc g,qk rfl,qJ uK]
def orA (e:Nat) (b:Value) (a:Int) (d:Bool) (c n:Nat):Array Value:= #[.pointer e,b,a,d,(),(),(),(),c,n]
theorem fX (b:Nat) (a:Value) (c:Int) (e:Bool) (d n:Nat) (g:Int) (f:Bool) (h i:Nat):
  (orA b a c e d n).setIfInBounds 2 g=orA b a g e d n/\(orA b a c e d n).setIfInBounds 3 f=orA b a c f d n/\
  (orA b a c e d n).setIfInBounds 8 h=orA b a c e h n/\(orA b a c e d n).setIfInBounds 9 i=orA b a c e d i:=by simp [orA]
structure OR (W:World) (go gc:Nat) (bsl:Value) (bk:Int) (pl:Bool) (rc n:Nat) (A:q') (N cap:Nat) (b:qn) (c:Cu):Prop where
 blk:Blk W go 121 (orA gc bsl bk pl rc n)
 cur:Cur W gc A N cap b c
 ne:go≠gc
theorem OR.step (h:OR W go gc bsl bk pl rc n A N cap b c) (a:Cur W' gc A N cap b c') (d:qE [gc] W W'):OR W' go gc bsl bk pl rc n A N cap b c':=
 ⟨d.blk h.blk (by simpa using h.ne),a,h.ne⟩
theorem OR.fresh (h:OR W go gc bsl bk pl rc n A N cap b c) (a:Below W W W'):OR W' go gc bsl bk pl rc n A N cap b c:=h.step (h.cur.fresh a) (qE.jq a)
theorem OR.drew (h:OR W go gc bsl bk pl rc n A N cap b c):OR W.drew go gc bsl bk pl rc n A N cap b c:=h.fresh ((Dr.refl W|>.drewN 1).below _)
theorem OR.fp (h:OR W go gc bsl bk pl rc n A N cap b c): ∀k∈fpS A,k≠go:=qT h.cur.own h.blk FV
theorem OR.Xm (h:OR W go gc bsl bk pl rc n A N cap b c) (i:Nat) (u:Value):Cur (W.setCell ⟨go,i,none⟩ u) gc A N cap b c:=
 h.cur.jZ ((qE.refl [go] W).zh (qy.2 rfl) u) (by simpa using λe=>h.ne e.symm) (λk a=>by simpa using h.fp k a)
theorem OR.GS (h:OR W go gc bsl bk pl rc n A N cap b c) (v:Int):OR (W.setCell ⟨go,2,none⟩ v) go gc bsl v pl rc n A N cap b c:=⟨by have:=h.blk.zh 2 v;rwa [(fX gc bsl bk pl rc n v pl rc n).1] at this,h.Xm 2 _,h.ne⟩
theorem OR.gJ (h:OR W go gc bsl bk pl rc n A N cap b c) (v:Bool):OR (W.setCell ⟨go,3,none⟩ v) go gc bsl bk v rc n A N cap b c:=⟨by have:=h.blk.zh 3 v;rwa [(fX gc bsl bk pl rc n bk v rc n).2.1] at this,h.Xm 3 _,h.ne⟩
theorem OR.lP (h:OR W go gc bsl bk pl rc n A N cap b c) (v:Nat):OR (W.setCell ⟨go,8,none⟩ v) go gc bsl bk pl v n A N cap b c:=⟨by have:=h.blk.zh 8 v;rwa [(fX gc bsl bk pl rc n bk pl v n).2.2.1] at this,h.Xm 8 _,h.ne⟩
theorem OR.lu (h:OR W go gc bsl bk pl rc n A N cap b c) (v:Nat):OR (W.setCell ⟨go,9,none⟩ v) go gc bsl bk pl rc v A N cap b c:=⟨by have:=h.blk.zh 9 v;rwa [(fX gc bsl bk pl rc n bk pl rc v).2.2.2] at this,h.Xm 9 _,h.ne⟩
theorem OR.cell (h:OR W go gc bsl bk pl rc n A N cap b c) (i:Nat):W.cell? ⟨go,i,none⟩=(orA gc bsl bk pl rc n)[i]? :=h.blk.cell i
theorem OR.c0 (h:OR W go gc bsl bk pl rc n A N cap b c):W.cell? go=some (.pointer gc):=h.cell 0
theorem OR.frz (h:OR W go gc bsl bk pl rc n A N cap b c) (i:Nat):W.frozen? ⟨go,i,none⟩=false:=h.blk.frozen i
def BF (W:World) (d a:Nat) (f:Value) (A:q') (N cap:Nat) (b:qn) (r:Int×Opt×Nat×Nat×Cu) (e:Ending) (c:World):Prop:=
 e= .returned (.int .i64 r.1)/\OR c d a f r.2.1.blk r.2.1.plain r.2.2.1 r.2.2.2.1 A N cap b r.2.2.2.2/\qE [d,a] W c
theorem Ew (W:World) (a m:Nat) (O':Value) (A:Option Addr) (N cap:Nat) (b:List UInt8) (h:OR W a m O' 0 false 0 0 A N cap b ⟨0,0⟩):
  Calls prog 77 #[.pointer a] W (BF W a m O' A N cap b (ph b)):=by
 have H:=qj h;have K1:=qj (yK W m A N cap b ⟨0,0⟩ 32768 h.cur uK);obtain⟨R,f⟩: ∃R,R=ph b:=⟨_,rfl⟩;rw [<-f];unfold ph at f;dsimp only at f;generalize jU b 32768 ⟨0,0⟩=k at*
 obtain⟨i,kc⟩:=k;have Z:=qj (λW (h:Cur W m A N cap b kc)=>QS W m A N cap b kc h);dsimp only at f K1;generalize j_ b kc=p at*
 obtain⟨v,pc⟩:=p;dsimp only at f Z;obtain⟨L,M⟩: ∃L,L=if 1<v.toNat then vP pc 2 else pc:=⟨_,rfl⟩
 rw [<-M] at f;have T:=qj (λW (h:Cur W m A N cap b L)=>yK W m A N cap b L 20000 h uK);have hrv:(jU b 20000 L).1<=20000:=by
  unfold jU;dsimp only;split
  ·omega
  ·have:=Yi (b.drop L.at_) 20000 uK;omega
 generalize jU b 20000 L=r at*
 obtain⟨g,G'⟩:=r;dsimp only at f T hrv;have U:=qj (λW (h:Cur W m A N cap b G')=>yK W m A N cap b G' (g:Int) h uK);generalize jU b (g:Int) G'=nn at*
 obtain⟨t,l⟩:=nn;dsimp only at f U;have P':B8 v= .int .u8 (v.toNat:Int):=rfl;rw [P'] at Z;have N9:decide (v=1)=decide (v.toNat=1):=by
  by_cases h:v=1
  ·subst h;rfl
  ·have:v.toNat≠1:=λe=>h (jG.1 e)
   rw [qc h,qc this]
 rw [N9] at f;have hy:=v.toNat_lt;generalize v.toNat=y at*
 replace f:=qj f;replace M:=qj M;unfold jS at K1 Z T U;have q0:=h.c0;clear h P' N9;go_enter func77,ntmps77
 go_wp2_with fail;refine K1.mono ?_;rintro e w1 ⟨rfl,OX,N6⟩;have u':=H.step OX N6;have f1:=u'.frz 2;have g1:w1.cell? ⟨a,2,none⟩=some (.int .i64 0):=u'.cell 2;have p':=qj (u'.GS (i:Int));have U':Hid (qE [a,m] W (w1.setCell ⟨a,2,none⟩ i)):=Qf (N6.mono (l':=[a,m]) λk hk=>by rw [qy.1 hk];simp) 2 i
 have S':=qj (Z.out _ p'.cur);have q2:=p'.c0;clear K1 Z OX N6 u' H q0
 go_wp2_with fail;refine S'.mono ?_;rintro e w3 ⟨rfl,Y',J'⟩;have s:=qj (p'.step Y' J');have z':=qj (yv U' J');have q3:=s.c0;clear S' Y' J' p' U' q2 f1 g1;by_cases X':1<y
 focus
  have hy1':(1:Int)<(y:Int):=uK
  have K5:=qj (yB w3 m A N cap b pc 2 s.cur);have F:=M.out;rw [qk X'] at F;rw [<-F] at K5;unfold jS at K5
  go_wp2_with fail;refine K5.mono ?_;rintro e w4 ⟨rfl,Q',D'⟩;have Y:=qj (s.step Q' D');have N':=qj (yv z' D');have hd:((y:Int)==1)=decide (y=1):=by
   rw [qc uK];simp;omega
  clear K5 Q' D' s z' q3 F M;generalize u:decide (y=1)=pl at*
  replace u:=qj u;have fa:=Y.frz 3;have ga:w4.cell? ⟨a,3,none⟩=some (.bool false):=Y.cell 3;have x:=qj (Y.gJ pl);have iL:=qj (Qf N' 3 (.bool pl));have KA:=qj (T.out _ x.cur);have qa:=x.c0;have I':=Y.c0;clear T Y N'
 rotate_left
 focus
  have hy1': ¬(1:Int)<(y:Int):=uK
  have F:=M.out;rw [qJ X'] at F;rw [<-F] at s;have hd:((y:Int)==1)=decide (y=1):=by
   by_cases h:y=1
   ·subst h;rfl
   ·rw [qc h];simp;omega
  clear F M q3;generalize u:decide (y=1)=pl at*
  replace u:=qj u;have fa:=s.frz 3;have ga:w3.cell? ⟨a,3,none⟩=some (.bool false):=s.cell 3;have x:=qj (s.gJ pl);have iL:=qj (Qf z' 3 (.bool pl));have KA:=qj (T.out _ x.cur);have qa:=x.c0;have I':=s.c0;clear T s z'
 all_goals
  go_wp2_with fail;refine KA.mono ?_;rintro e G ⟨rfl,V,D⟩;have w:=x.step V D;have fb:=w.frz 8;have gb:G.cell? ⟨a,8,none⟩=some (.int .i64 0):=w.cell 8;have n:=qj (w.lP g);have m':=qj (Qf (yv iL D) 8 g);have KB:=qj (U.out _ n.drew.cur);have C:=n.c0;have I:(G.setCell ⟨a,8,none⟩ g).cell? ⟨a,8,none⟩=some (g:Value):=n.cell 8;clear U KA V D w x iL qa I' fa ga
  go_wp2_with fail;generalize G.setCell ⟨a,8,none⟩ g=wc at*
  clear fb gb;have J:=n.ne;refine zv 10 (λW=>W.cell? a=some (.pointer m)/\W.cell? ⟨a,8,none⟩=some (g:Value)) AL ⟨C,I⟩ (λd'=> ?_);refine zq [0,1,2,3,4,5] (a':= ?_) ?_;refine zq [6,7,8] (a':= ?_) ?_;refine carried 9 rfl AL SQ (λK c=> ?_);go_simp
  (go_at_call 107;((with_reducible refine(KB.out).mono ?_);rintro e wd ⟨rfl,X,o⟩);have B:=n.out.drew.step X o;have fd:=B.frz 9;have gd:wd.cell? ⟨a,9,none⟩=some (.int .i64 0):=B.cell 9)
  refine c _ _ (⟨o.cell (p:= a) (by simpa using J) C,o.cell (p:=⟨a,8,none⟩) (by simpa using J) I⟩) (λd'=> ?_)
  clear c K;try simp only [Act.put,qQ,qY,qV]
  refine j4 10 rfl AL FV SQ (λK c=> ?_);go_simp;refine c _ _ ?_;clear c K;try simp only [Act.put,qQ,qY,qV]
  refine j4 11 rfl AL FV SQ (λK c=> ?_);go_simp;refine c _ _ ?_;clear c K;try simp only [Act.put,qQ,qY,qV]
  refine j4 12 rfl AL FV SQ (λK c=> ?_);go_simp;refine c _ _ ?_;clear c K;try simp only [Act.put,qQ,qY,qV]
  refine zV AL ?_ _;have d:=qj (B.lu t);have O:=qj (Qf (yv m'.drew o) 9 t);clear KB X o B n m' C I d' fd gd J;generalize wd.setCell ⟨a,9,none⟩ t=j at*
  have z:=qj (jg j m A N cap b l d.cur);have qe:=d.c0
  go_wp2_with fail;by_cases q:l.err=0
  ·have Q:Hid (R=(vM 1 ⟨(i:Int),pl,0,0,0,0⟩,⟨(i:Int),pl,0,0,0,0⟩,g,t,l)):=by rw [Hid,f.out,qJ (by simpa using q),<-u.out]
   have S:=qj (JX 1 (i:Int) 0 0 0 0 pl j ⟨uK,uK⟩);rw [VT 1 (i:Int) 0 0 0 0 pl] at S;rw [q] at z;generalize vM 1 ⟨(i:Int),pl,0,0,0,0⟩=CE at*
   have z2:j.cell? ⟨a,2,none⟩=some (i:Value):=d.cell 2;have z3:j.cell? ⟨a,3,none⟩=some (.bool pl):=d.cell 3;have z4:j.cell? ⟨a,4,none⟩=some (.int .i64 0):=d.cell 4;have z5:j.cell? ⟨a,5,none⟩=some (.int .i64 0):=d.cell 5;have z6:j.cell? ⟨a,6,none⟩=some (.int .i64 0):=d.cell 6;have z7:j.cell? ⟨a,7,none⟩=some (.int .i64 0):=d.cell 7;clear f;refine z.mono ?_;rintro e w' ⟨rfl,rfl⟩
   go_wp2_with fail;refine S.mono ?_;rintro e wf ⟨rfl,P⟩;have HF:=qj (d.fresh P);have M':=qj (O.fresh P);clear S z P d O z2 z3 z4 z5 z6 z7 qe
   go_wp2_with fail;go_ret;unfold BF;rw [Q.out];exact⟨rfl,HF.out,M'.out⟩
  ·have Q:Hid (R=(l.err,⟨(i:Int),pl,0,0,0,0⟩,g,t,l)):=by rw [Hid,f.out,qk (by simpa using q),<-u.out]
   have hzn:(l.err==0)=false:=by simpa using q
   have Z':(l.err !=0)=true:=by simpa using q
   generalize hE:l.err=E at*
   replace hE:=qj hE;clear f;refine z.mono ?_;rintro e w' ⟨rfl,rfl⟩
   go_wp2_with fail;go_ret;unfold BF;rw [Q.out];exact⟨rfl,d.out,O.out⟩
theorem Vf (b:qn):mkV b=XQ b/\mkE b=V6 b:=⟨rfl,rfl⟩
def gU (W:World) (r:Int×qn) (e:Ending) (b:World):Prop:=
 ∃c a,e= .returned (.tuple #[.slice c r.2 a, .int .i64 r.1])/\Reads b b 1 c r.2 (r.2.map B8)/\r.2.length<=a/\a<=maxLen/\Below W W b
theorem Cw (A:q') (n c:Nat) (b:qn) (W:World) (ht:Tab W) (h:Reads W W 1 A n (b.map B8)) (w:n<=c) (u:c<=maxLen) (G:n<=1000000000000):
  Calls prog 75 #[.slice A n c] W (gU W (kj b)):=by
 have i:=qj (kt A n c W b W w u h);rw [(Vf b).1,(Vf b).2] at i;have f:=qj (Vr A n c b W ht h w u G);obtain⟨R,a⟩:=j1 (kj b);rw [<-a];unfold kj at a;unfold Qr at f;generalize V6 b=E,XQ b=V at*;clear ht h;by_cases o:E=0
 focus
  subst o;rw [qJ s8] at a;by_cases q:V=1
  focus
   subst q;rw [qJ s8] at a;generalize QH b=s,vR b=vs at*;by_cases r:s=0
   focus
    subst r;rw [qJ s8] at a;by_cases h5:vs.length<5
    focus
     have g:=qj (a.trans (qk h5));have z:(vs.length:Int)<5:=uK;clear a
    rotate_left
    focus
     have g:=qj (a.trans (qJ h5));clear a;obtain⟨F,hi,H,t,I⟩:=qA QB
    rotate_left
   rotate_left 2
   focus
    have g:=qj (a.trans (qk r));have C:(s==0)=false:=by simpa using r
    have B:(s !=0)=true:=by simpa using r
    clear a
   rotate_left
  rotate_left 3
  focus
   have g:=qj (a.trans (qk q));have K:(V==1)=false:=by simpa using q
   have J:(V !=1)=true:=by simpa using q
   clear a
  rotate_left
 rotate_left 4
 focus
  have g:=qj (a.trans (qk o));have C:(E==0)=false:=by simpa using o
  have B:(E !=0)=true:=by simpa using o
  clear a
 rotate_left
 all_goals
  go_in;go_wp2_with fail;refine Ω i ?_;go_wp2_with fail
 rotate_left
 ·refine f.mono ?_;rintro e v ⟨l,c2,rfl,d⟩;have m:=jC d.1;have hcut: ∀W,(Instr.slice 30 (.slice l vs c2) (some (.int .i64 5)) none none).run prog W= .ok (.slice (xo l c2 5 1) (vs.length-5) (c2-5)) W:=jI _ 5 F 1 qu hi t l _ _ 5 _ uK;have D:=qj (d.reads.VC (k:=5) uK m.1);have j:=qj d.2;have x:Hid (vs.length-5<=c2-5/\c2-5<=maxLen):=by have:=m.1;have:=m.2;rw [Hid];omega
  clear d hi H t I m;have y:(vs.drop 5).length=vs.length-5:=qI ..;go_wp2;go_ret2;unfold gU;rw [g.out];dsimp only;rw [y];exact⟨_,_,rfl,D,x.out.1,x.out.2,j⟩
 rotate_left
 ·go_ret2;unfold gU;rw [g.out];exact⟨none,0,rfl,Reads.none_,qx _,FV,qZ _ _⟩
 ·go_ret2;unfold gU;rw [g.out];exact⟨none,0,rfl,Reads.none_,qx _,FV,qZ _ _⟩
 all_goals
  refine f.mono ?_;rintro e v ⟨l,c2,rfl,d⟩;have j:=qj d.2;clear d;go_wp2;go_ret2;unfold gU;rw [g.out];exact⟨none,0,rfl,Reads.none_,qx _,FV,j⟩
end
end Go.Proofs.YtfnlfpcfkbdcmaaGreatDoor
