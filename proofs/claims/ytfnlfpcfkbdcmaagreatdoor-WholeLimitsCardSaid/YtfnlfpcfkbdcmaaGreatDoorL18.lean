import Derived.Test.YtfnlfpcfkbdcmaaGreatDoorL15
import Derived.Test.YtfnlfpcfkbdcmaaGreatDoorL16
set_option linter.unusedSimpArgs false
set_option linter.unusedVariables false
set_option maxRecDepth 100000
set_option maxHeartbeats 0
open Go.Proofs.Tryz
namespace Go.Proofs.YtfnlfpcfkbdcmaaGreatDoor
open Go.RowKit
section
variable {A b:q'}{E:TypeId}{base base' c d e f n q s:Nat}{l:List Value}{leaf:List (Nat×Bool)}{os:List Nat}{w w':World}
theorem xz {size l:Nat} {d:TypeId} {g i:List Value} (h:w.ownsRow base E size (.slice A n c) n g) (m:w.ownsRow base' d l (.slice b e f) e i) (o:E≠d): ∀k∈fpS A,k∉fpS b:=λk q j=>by
 obtain⟨t,s,p⟩:=jV h k (ZO.1 q);obtain⟨u,r,a⟩:=jV m k (ZO.1 j);rw [p] at a;injection a with a
 injection a with _ ht
 exact o ht
theorem b_ {size o:Nat} {e:TypeId} {a:q'} {b:List Value} (h:w.ownsRow base E size (.slice A n c) n b) (g:w.ownsRow base' e o (.slice a d f) d l) (j:E≠e) (m:w.grownBy w' (a.map (·.block))):w'.ownsRow base E size (.slice A n c) n b:=
 ((qE.refl (fpS a) w).grown m λk i=> .inl i).own h (xz h g j)
def I9 (w:World) (v:Value) (R:List (Nat×Bool)):Prop:= ∃A c,v= .slice A R c/\w.ownsRow 0 319 2 (.slice A R c) R (yC R)
def Rws (w:World) (base:Nat) (A:q') (q c:Nat) (leaf:List (Nat×Bool)):Prop:=
 ∃vs,w.ownsRow base 314 1 (.slice A q c) q vs/\ ∀k,k<q-> ∃v,vs[k]? =some v/\I9 w v (vi leaf k)
theorem Rws.below (h:Rws w base A q c leaf) (a:Below w w w'):Rws w' base A q c leaf:=by
 obtain⟨vs,d,b⟩:=h;refine⟨vs,qG d a,λk e=> ?_⟩;obtain⟨v,h1,f,c1,h2,h3⟩:=b k e;exact⟨v,h1,f,_,h2,qG h3 a⟩
theorem Rws.jZ {g:Nat} (h:Rws w base A q c leaf) (a:w.ownsRow base' 5 1 (.slice d e g) e l) (b:qE [d] w w'):Rws w' base A q c leaf:=by
 obtain⟨vs,h1,f⟩:=h;refine⟨vs,b.own h1 (xz h1 a FV),λk j=> ?_⟩;obtain⟨v,h2,i,c1,h3,h4⟩:=f k j;exact⟨v,h2,i,_,h3,b.own h4 (xz h4 a FV)⟩
theorem Rws.at_ {k:Nat} (h:Rws w base A q c leaf) (f:k<q): ∃b a c1,A=some ⟨b,0,none⟩/\w.cell? ⟨b,k,none⟩=some (.slice a (vi leaf k).length c1)/\w.ownsRow 0 319 2 (.slice a (vi leaf k).length c1) (vi leaf k).length (yC (vi leaf k)):=by
 obtain⟨vs,d,e⟩:=h;obtain⟨b,rfl⟩:=Zx d uK;obtain⟨v,h1,a,c1,rfl,h3⟩:=e k f;exact⟨b,a,_,rfl,by rw [(VQ d uK).1,h1],h3⟩
theorem Rws.push {e:q'} {c1:Nat} {o:Obj} {vs:List Value} (a:w.ownsRow base 314 1 (.slice A q c) q vs) (g: ∀k,k<q-> ∃v,vs[k]? =some v/\I9 w v (vi leaf k)) (R:Nat) (j:R=(vi leaf q).length) (h:w.ownsRow 0 319 2 (.slice b R c1) R (yC (vi leaf q))) (f:(w.alloc o).grownBy w' (A.map (·.block))) (i:w'.ownsRow base 314 1 (.slice e (q+1) d) (q+1) (vs++[.slice b R c1])):Rws w' base e (q+1) d leaf:=by
 subst j;have n:=a.1;refine⟨_,i,λk p=> ?_⟩;by_cases m:k<q
 ·obtain⟨v,h2,l,c2,h3,h4⟩:=g k m;refine⟨v,by rw [q_ uK];exact h2,l,_,h3,b_ (h4.alloc o) (a.alloc o) FV f⟩
 ·obtain rfl:k=q:=uK;refine⟨_,by rw [qm uK,show k-vs.length=0 by omega];rfl,b,_,rfl,b_ (h.alloc o) (a.alloc o) FV f⟩
theorem mS:(prog.info? 314).map (λi=>(i.zero,i.size,i.bytes))=some (some (.slice none 0 0),1,24):=AL
theorem Bq (os:List Nat) (x:Nat): ∀l,(XU os x l).Perm (x::l)
 |[]=>List.Perm.refl _
 |y::t=>by
  unfold XU;split
  ·exact((Bq os x t).cons y).trans (List.Perm.swap x y t)
  ·exact List.Perm.refl _
theorem Fi (os:List Nat): ∀l a,(YO os a l).Perm (l++a)
 |[],a=>List.Perm.refl _
 |x::t,a=>(Fi os t _).trans (((Bq os x a).append_left t).trans List.perm_middle)
theorem kP: ∀(os:List Nat) (i:Nat),(vA i os).Nodup
 |[],i=>List.nodup_nil
 |n::t,i=>by
  unfold vA;split
  ·exact List.nodup_cons.2 ⟨λh=>by have:=Yq t _ i h;omega,kP t (i+1)⟩
  ·exact kP t _
theorem FI (os:List Nat):(Z0 os).Nodup:=by
 unfold Z0;have:=Fi os (vA 0 os) [];rw [jx] at this;exact((List.reverse_perm _).trans this).nodup_iff.2 (kP _ 0)
theorem tA (ns:List Nat) (i:Nat):Pr (ns++[0]) i=Pr ns i:=by unfold Pr;simp
theorem kU (ns:List Nat) (q i:Nat):Pr (ns++[q]) i=Pr ns i+if i<q then 1 else 0:=by
 unfold Pr;rw [vx,qK];congr 1;by_cases h:i<q<;>simp [h]
theorem mn (ns:List Nat) (i:Nat):Pr ns i<=ns.length:=jN _ _
theorem EZ (no:Nat) (a ns:List Nat):ZL no a (ns++[0])=ZL no a ns:=by unfold ZL;simp only [tA]
theorem kd (no:Nat) (a ns:List Nat):(ZL no a ns).length=no:=by simp [ZL]
theorem Ph (no:Nat) (a ns:List Nat) (b:s<no):(ZL no a ns)[s]? =some (if s∈a then UInt8.ofNat (Pr ns (a.idxOf s)) else 0):=by simp [ZL,b]
theorem te (no:Nat) (b:List Nat):ZL no b []=List.replicate no 0:=by
 apply zm;intro s;by_cases a:s<no
 ·rw [Ph _ _ _ a,jF,qk a];simp [Pr]
 ·rw [qO (by rw [kd];omega),qO SZ]
theorem EJ {no:Nat} {a ns:List Nat} (i:a.Nodup) (c:a[q]? =some s) (j:s<no):ZL no a (ns++[q+1])=(ZL no a (ns++[q])).set s (UInt8.ofNat (Pr ns q+1)):=by
 have g:q<a.length:=by
  rcases jE q a.length with h|h
  ·exact h
  ·rw [qO h] at c;cases c
 have f:a[q]=s:=by rw [qX g] at c;exact zy c
 have k:a.idxOf s=q:=by rw [<-f];exact List.Nodup.idxOf_getElem i q g
 apply zm;intro t;by_cases ht:t<no
 ·rw [Ph _ _ _ ht,vD];by_cases d:s=t
  ·subst d;rw [qk rfl,qk (zQ c),qk (by rw [kd];exact j),k,kU,qk (ze q)]
  ·rw [qJ d,Ph _ _ _ ht];by_cases b:t∈a
   ·rw [qk b,qk b,kU,kU];have l:a.idxOf t≠q:=λe=>by
     have h1:=List.idxOf_lt_length_of_mem b;have h2:=List.getElem_idxOf h1;simp only [e] at h2;exact d (by rw [<-f];exact h2)
    congr 3;by_cases h:a.idxOf t<q
    ·rw [qk h,qk uK]
    ·rw [qJ h,qJ uK]
   ·rw [qJ b,qJ b]
 ·rw [qO (by rw [kd];omega),qO (by rw [xE,kd];omega)]
theorem BZ (A0:Option Addr) (n c0 B:Nat) (bs:List UInt8) (w:World) (h:Reads w B 1 A0 n (bs.map B8)) (hB:B<=w.heap.size) (hok:Y2 bs=0):
  Calls prog 173 #[.slice A0 n c0] w λe w'=> ∃g,e= .returned (.tuple #[.pointer (some ⟨g,0,none⟩),()])/\Cdr w' g w w'.heap.size bs/\Below w w w':=by
 obtain⟨i0,hi,iz0,iz1,iz2⟩:=qA Pf;replace hi:=qj hi;replace iz0:=qj iz0;replace iz1:=qj iz1;replace iz2:=qj iz2;have KC:=qj (Ck A0 n c0 B bs w h hB);have H:=qj h;have BB:=qj hB;have d':=qj h.len;obtain⟨hn3,hokl,hall⟩:=ZT hok;have hn300:n<=300:=by rw [<-d'.out];exact hn3
 have HOK:=qj hok;unfold FN YW at KC;rw [hok,qk rfl] at KC;have hcl:=PD bs;rw [hcl,d'.out] at KC;replace hall:=qj hall;clear h hB hok hn3 hokl hcl;go_enter func173,ntmps173
 go_wp2_with fail;refine KC.mono ?_;rintro e w1 ⟨Ac,C,rfl,hco,hB1⟩;have HCO:=qj hco;have HB1:=qj hB1;have KL:=qj (yV A0 n c0 B bs w1 (H.below (hB1.mono BB)) (qv BB hB1.size) uK)
 unfold jQ at KL;clear KC hco hB1
 go_wp2_with fail;refine KL.mono ?_;rintro e P ⟨E,F,rfl,hlo,hB2⟩;have HLO:Hid (P.ownsRow w 5 1 (.slice E n F) n (bs.map B8)):=qi hlo HB1.size;have HCO2:=qj (qG HCO hB2);have S:=qj (HB1.trans (hB2.mono HB1.size));clear KL hlo hB2 HCO HB1
 go_wp2_with fail;rw [Mz];have HS0:Hid (HS (P.alloc (.cells (VR (.slice E n F) (.slice Ac n C) (λ_=>0) (λ_=>0) (λ_=> .slice none 0 0)) 266)) P w (.slice E n F) (.slice Ac n C) (λ_=>0) (λ_=>0) (λ_=>0) (λ_=>none) (λ_=>0) (λ_=>[])):=
  ⟨Blk.new P _ _,λl _=>qP _ _ _ _,λl l' _ _ _ k a=>by simp [fpS] at a⟩
 have N:Hid (Below w w (P.alloc (.cells (VR (.slice E n F) (.slice Ac n C) (λ_=>0) (λ_=>0) (λ_=> .slice none 0 0)) 266))):=S.alloc S.size _;have HLO3:Hid ((P.alloc (.cells (VR (.slice E n F) (.slice Ac n C) (λ_=>0) (λ_=>0) (λ_=> .slice none 0 0)) 266)).ownsRow w 5 1 (.slice E n F) n (bs.map B8)):=HLO.alloc _;have HCO3:Hid ((P.alloc (.cells (VR (.slice E n F) (.slice Ac n C) (λ_=>0) (λ_=>0) (λ_=> .slice none 0 0)) 266)).ownsRow w 25 1 (.slice Ac n C) n ((Xt bs).map C16)):=HCO2.alloc _;have Q':Hid (w.heap.size<=P.heap.size):=S.size;clear HLO HCO2 S;generalize P.alloc (.cells (VR (.slice E n F) (.slice Ac n C) (λ_=>0) (λ_=>0) (λ_=> .slice none 0 0)) 266)=w3 at*
 generalize P.heap.size=g at*
 go_loopw [25] (λv25 wr=> ∃(i:Nat) (q m:Nat->Nat) (A:Nat->Option Addr) (c:Nat->Nat) (b:Nat->List Nat),v25=(i:Value)/\i<=n/\Hid (HS wr g w (.slice E n F) (.slice Ac n C) q m m A c b)/\Hid (Below w w wr)/\Hid (wr.ownsRow w 5 1 (.slice E n F) n (bs.map B8))/\Hid (wr.ownsRow w 25 1 (.slice Ac n C) n ((Xt bs).map C16))/\Hid (∀l,b l=YQ (bs.take i) l)/\Hid (∀l,m l=(b l).length)/\Hid (∀l,q l=VD bs i l)) (λv25 _=>n-(intOf v25).toNat)
 case atStart=>exact⟨0,λ_=>0,λ_=>0,λ_=>none,λ_=>0,λ_=>[],rfl,qp _,HS0,N,HLO3,HCO3,by rw [Hid];intro l;simp [YQ,J6],by simp [Hid],by rw [Hid];intro l;simp [VD,YQ,J6]⟩
 case round=>
  clear HS0 N HLO3 HCO3;obtain⟨i,q,m,A,c,b,rfl,hi_,v,HB,Z,Q,R,L,HQ⟩:=hrel;by_cases hlt:i<n
  ·have hlt':(i:Int)<(n:Int):=uK
   obtain⟨ad,z,hAd,-,hz,hcell⟩:=(H.below (HB.mono BB)).byte hlt;subst hAd;have htk:bs.take (i+1)=bs.take i++[z]:=by rw [qs,hz];rfl
   have htl:(bs.take i).length=i:=by rw [qh,d'.out];omega
   have hz15:=hall.out z (zQ hz);by_cases P':z.toNat=0
   ·have hz0':((z.toNat:Int)==0)=true:=by simp [P']
    have hze:(z.toNat:Int)=0:=uK;have HX2:Hid (∀l,b l=YQ (bs.take (i+1)) l):=λl=>by rw [htk,BQ l z _ P'];exact R l
    have M':Hid (∀l,q l=VD bs (i+1) l):=λl=>by
     have e:YQ (bs.take (i+1)) l=YQ (bs.take i) l:=by rw [htk,BQ l z _ P']
     rw [HQ.out l];unfold VD;rw [e]
    rw [hze] at hcell;clear htk htl hz P' R HQ hz0' hze
    go_wp2_with fail;go_roundw
    case rel=>exact⟨i+1,q,m,A,c,b,by first|rfl|simp,uK,v,HB,Z,Q,HX2,L,M'⟩
    case measure=>simp [intOf];omega
   ·obtain⟨l,hl⟩: ∃l,l=z.toNat:=⟨_,rfl⟩
    have U':Hid (∀j,YQ (bs.take (i+1)) j=b j++if l=j then [i] else []):=λj=>by rw [htk,nQ j z _ P',htl,R.out j,hl]
    rw [<-hl] at hcell hz15 P';obtain⟨iL,u,hAc,-,hu,hcx⟩:=(Reads.zY Q).at_ hlt;subst hAc;obtain⟨x,hx,rfl⟩:=get_map C16 _ _ _ hu;have hxg:Hid ((Xt bs).getD i 0=x):=by rw [Hid,qd,hx];rfl
    unfold C16 at hcx;have hx16:x<65536:=by rw [<-hxg.out];exact Ek bs i
    have f:l<16:=uK;have cF:=v.lQ f;have cM:=v.iV f;have c1:wr.cell? ⟨g,1,none⟩=some (.slice (some iL) n C):=by rw [v.blk.cell 1,ml]
    have fF:wr.frozen? ⟨g,2+l,none⟩=false:=v.blk.frozen _;have fM:wr.frozen? ⟨g,18+l,none⟩=false:=v.blk.frozen _;have hl16':(l:Int)<16:=uK;have hl0:(0:Int)<=(l:Int):=uK;have wl:IntKind.i64.wrap (l:Int)=(l:Int):=SX;have wx:IntKind.i64.wrap (x:Int)=(x:Int):=SX;have hlz:((l:Int)==0)=false:=SZ;have hml:m l<=300:=by
     rw [L.out l,R.out l];refine qv ?_ hn300;unfold YQ;split
     ·simp
     ·refine qv (F0 l _ _) ?_;rw [htl];omega
    have wi:IntKind.i64.wrap (i:Int)=(i:Int):=SX;have hi0:(0:Int)<=(i:Int):=uK;clear htk htl hz hl hu hx;have hMl: ∃M,M=m l:=⟨_,rfl⟩;by_cases O':m l=0
    focus
     have hm0':((m l:Int)==0)=true:=by simp [O']
     have S':b l=[]:=xq.1 ((L.out l).symm.trans O');have M':Hid (∀j,(if j=l then x else q j)=VD bs (i+1) j):=λj=>by
      unfold VD;rw [U'.out j];by_cases h:j=l
      ·subst h
       rw [qk rfl,qk rfl,S',xY,qJ (List.cons_ne_nil _ _),List.headD_cons,hxg.out]
      ·rw [qJ h,qJ (λe:l=j=>h e.symm),jx,HQ.out j,R.out j];rfl
     have cM0:=cM;rw [O'] at cM0;have HML:Hid (m l=0):=O';clear S' HQ O';generalize r:m l=M at*
     replace r:=qj r;clear cM
     go_wp2_with fail;refine zv 10 (λW=>W.cell? ⟨g,1,none⟩=some (.slice (some iL) n C)/\W.cell? (iL.add i)=some (.int .u16 x)) AL ⟨c1,hcx⟩ (λG=> ?_)
     refine Z6 [0,1,2,3,4] (a':= ?_) ?_;refine zq [5] (a':= ?_) ?_;refine Z6 [6,7,8,9] (a':= ?_) ?_;refine j4 10 rfl AL FV SQ (λK d=> ?_);go_simp;refine d _ _ ?_;clear d K;try simp only [Act.put,qQ,qY,qV]
     refine zV AL ?_ _;have J:Hid (HS (wr.setCell ⟨g,2+l,none⟩ x).drew g w (.slice E n F) (.slice (some iL) n C) (λj=>if j=l then x else q j) m m A c b):=(v.out.Lk f x).drew
     have S:Hid (Below w w (wr.setCell ⟨g,2+l,none⟩ x).drew):=(HB.setCell (p:=⟨g,2+l,none⟩) Q' _).drew;have hS2:qE [g] wr (wr.setCell ⟨g,2+l,none⟩ x).drew:=((qE.refl [g] wr).zh (p:=⟨g,2+l,none⟩) (qy.2 rfl) _).drew;have u':=qj (hS2.own Z (λk a=>by simpa using qT Z v.blk FV k a))
     have D':=qj (hS2.own Q (λk a=>by simpa using qT Q v.blk FV k a))
     clear G hS2 v HB Z Q c1 hcx cF fF fM cM0;generalize (wr.setCell ⟨g,2+l,none⟩ x).drew=wk at*
     generalize hqq:(λj=>if j=l then x else q j)=q2 at J
     replace M':Hid (∀j,q2 j=VD bs (i+1) j):=λj=>by rw [<-hqq];exact M' j
     have cM:=J.iV f;rw [r.out] at cM;clear hqq;have fM:wk.frozen? ⟨g,18+l,none⟩=false:=J.blk.frozen _;have wM:IntKind.i64.wrap ((M:Int)+1)=(M:Int)+1:=SX
     go_wp2_with fail;refine zv 10 (λW=>W.cell? ⟨g,18+l,none⟩=some (M:Value)) AL cM (λG=> ?_)
     refine Z6 [0,1,2,3,4] (a':= ?_) ?_;refine zq [5] (a':= ?_) ?_;refine Z6 [6,7,8,9] (a':= ?_) ?_;refine j4 10 rfl AL FV SQ (λK d=> ?_);go_simp;refine d _ _ ?_;clear d K;try simp only [Act.put,qQ,qY,qV]
     refine zV AL ?_ _;have D:Hid (HS (wk.setCell ⟨g,18+l,none⟩ (.int .i64 ((M:Int)+1))).drew g w (.slice E n F) (.slice (some iL) n C) q2 (λj=>if j=l then M+1 else m j) m A c b):=(J.lj f (M+1)).drew
     have N:Hid (Below w w (wk.setCell ⟨g,18+l,none⟩ (.int .i64 ((M:Int)+1))).drew):=(S.setCell (p:=⟨g,18+l,none⟩) Q' _).drew;have N6:qE [g] wk (wk.setCell ⟨g,18+l,none⟩ (.int .i64 ((M:Int)+1))).drew:=((qE.refl [g] wk).zh (p:=⟨g,18+l,none⟩) (qy.2 rfl) _).drew;have m':=qj (N6.own u' (λk a=>by simpa using qT u' J.blk FV k a))
     have I':=qj (N6.own D' (λk a=>by simpa using qT D' J.blk FV k a))
     clear G N6 J S u' D' cM fM wM;generalize (wk.setCell ⟨g,18+l,none⟩ (.int .i64 ((M:Int)+1))).drew=o at*
     have cS:=D.out.WH f;have fS:o.frozen? ⟨g,34+l,none⟩=false:=D.blk.frozen _;have HO:=qj (D.own l f);rw [r.out] at cS HO;have hm1:M+1<=maxLen:=SJ;have hm2:(M+1)*8<=140737488355328:=uK
     go_wp2_with fail;refine zv 14 (λW=>W.cell? ⟨g,34+l,none⟩=some (.slice (A l) M (c l))) AL cS (λG=> ?_)
     refine Z6 [0,1,2,3,4,5,6] (a':= ?_) ?_;refine zq [7] (a':= ?_) ?_;refine Z6 [8,11,12] (a':= ?_) ?_;have I:HS (o.drew.alloc (.cells #[i] 3)) g w (.slice E n F) (.slice (some iL) n C) q2 (λj=>if j=l then M+1 else m j) m A c b:=D.drew.fresh ((qZ _ _).alloc (qx _) _)
    rotate_left
    focus
     have hm0':((m l:Int)==0)=false:=SZ
     have M':Hid (∀j,q j=VD bs (i+1) j):=λj=>by
      unfold VD;rw [U'.out j,HQ.out j];unfold VD;rw [<-R.out j];by_cases h:l=j
      ·subst h
       have S':b l≠[]:=λe=>O' (by rw [L.out l,e];rfl)
       rw [qk rfl,qJ S',qJ (by simp [S'])]
       cases hxl:b l with
       |nil=>exact absurd hxl S'
       |cons y t=>rfl
      ·rw [qJ h,jx]
     generalize r:m l=M at*
     replace r:=qj r;clear HQ c1 hcx cF fF fM;have J:=v;have S:=HB;have u':=Z;have D':=Q;clear v HB Z Q;have fM:wr.frozen? ⟨g,18+l,none⟩=false:=J.blk.frozen _;have wM:IntKind.i64.wrap ((M:Int)+1)=(M:Int)+1:=SX
     go_wp2_with fail;refine zv 10 (λW=>W.cell? ⟨g,18+l,none⟩=some (M:Value)) AL cM (λG=> ?_)
     refine Z6 [0,1,2,3,4] (a':= ?_) ?_;refine zq [5] (a':= ?_) ?_;refine Z6 [6,7,8,9] (a':= ?_) ?_;refine j4 10 rfl AL FV SQ (λK d=> ?_);go_simp;refine d _ _ ?_;clear d K;try simp only [Act.put,qQ,qY,qV]
     refine zV AL ?_ _;have D:Hid (HS (wr.setCell ⟨g,18+l,none⟩ (.int .i64 ((M:Int)+1))).drew g w (.slice E n F) (.slice (some iL) n C) q (λj=>if j=l then M+1 else m j) m A c b):=(J.lj f (M+1)).drew
     have N:Hid (Below w w (wr.setCell ⟨g,18+l,none⟩ (.int .i64 ((M:Int)+1))).drew):=(S.setCell (p:=⟨g,18+l,none⟩) Q' _).drew;have N6:qE [g] wr (wr.setCell ⟨g,18+l,none⟩ (.int .i64 ((M:Int)+1))).drew:=((qE.refl [g] wr).zh (p:=⟨g,18+l,none⟩) (qy.2 rfl) _).drew;have m':=qj (N6.own u' (λk a=>by simpa using qT u' J.blk FV k a))
     have I':=qj (N6.own D' (λk a=>by simpa using qT D' J.blk FV k a))
     clear G N6 J S u' D' cM fM wM;generalize (wr.setCell ⟨g,18+l,none⟩ (.int .i64 ((M:Int)+1))).drew=o at*
     have cS:=D.out.WH f;have fS:o.frozen? ⟨g,34+l,none⟩=false:=D.blk.frozen _;have HO:=qj (D.own l f);rw [r.out] at cS HO;have hm1:M+1<=maxLen:=SJ;have hm2:(M+1)*8<=140737488355328:=uK
     go_wp2_with fail;refine zv 14 (λW=>W.cell? ⟨g,34+l,none⟩=some (.slice (A l) M (c l))) AL cS (λG=> ?_)
     refine Z6 [0,1,2,3,4,5,6] (a':= ?_) ?_;refine zq [7] (a':= ?_) ?_;refine Z6 [8,11,12] (a':= ?_) ?_;have I:HS (o.drew.alloc (.cells #[i] 3)) g w (.slice E n F) (.slice (some iL) n C) q (λj=>if j=l then M+1 else m j) m A c b:=D.drew.fresh ((qZ _ _).alloc (qx _) _)
    rotate_left
    all_goals
     have O:(o.drew.alloc (.cells #[i] 3)).ownsRow w 3 1 (.slice (A l) M (c l)) M ((b l).map NV):=by
      have:=I.own l f;rw [r.out] at this;exact this
     have cA:=I.WH f;rw [r.out] at cA;have N9:w.heap.size<=(o.drew.alloc (.cells #[i] 3)).heap.size:=qv N.size s8;have X':=N.size;refine carried 9 rfl AL SQ (λK d=> ?_);go_simp;skip
     refine d _ _ (cA) (λG=> ?_);clear d K;try simp only [Act.put,qQ,qY,qV]
     refine QY 10 rfl AL (λK d=> ?_)
     (refine jm _ rfl (.tmp 66) (.tmp 68) 62 rfl w 3 i0 () 1 8 jj hi iz0 iz1 iz2 rfl uK (A l) M (c l) _ rfl O (o.heap.size+1) o 1 1 [.int .i64 (i:Int)] rfl (zU _ _ _) (one_one rfl) hm1 hm2 N9 ?_;intro Y X s OX T hs6;have U:qE (fpS (A l)) (o.drew.alloc (.cells #[i] 3)) s:=(qE.refl _ _).grown T (λk a=> .inl a);have z':=U.blk I.blk (λa=>I.fpg f g a rfl);have Z':s.cell? ⟨g,34+l,none⟩=some (.slice (A l) M (c l)):=(by rw [z'.cell,Cg _ _ _ _ _ f,r.out]);have hf6:s.frozen? ⟨g,34+l,none⟩=false:=z'.frozen _)
     refine d _ _ (Z') (λG=> ?_);clear d K;try simp only [Act.put,qQ,qY,qV]
     refine Z6 [13] (a':= ?_) ?_;refine j4 14 rfl AL FV SQ (λK d=> ?_);go_simp;refine d _ _ ?_;clear d K;try simp only [Act.put,qQ,qY,qV]
     refine zV AL ?_ _;rw [<-r.out] at OX;have V:=HS.push D.drew f OX T hs6;rw [<-r.out] at V⊢;have hne:g∉fpS (A l):=λa=>I.fpg f g a rfl;have Y':Below w w (o.drew.alloc (.cells #[i] 3)):=N.drew.alloc X' _;have HB7:Hid (Below w w (s.setCell ⟨g,34+l,none⟩ (.slice Y (m l+1) X))):=((zG Y' T O N9).setCell (p:=⟨g,34+l,none⟩) Q' _);have G':qE [g] s (s.setCell ⟨g,34+l,none⟩ (.slice Y (m l+1) X)):=(qE.refl [g] s).zh (p:=⟨g,34+l,none⟩) (qy.2 rfl) _;have p':qE [] o (o.drew.alloc (.cells #[i] 3)):=qE.jq (((qZ _ _).drew).alloc (qx _) _);have N':=p'.own m' s8;have J':=p'.own I' s8;have HL7:=qj (G'.own (U.own N' (xz N' O FV)) (λk a=>by simpa using qT m' D.blk FV k a))
     have HC7:=qj (G'.own (U.own J' (xz J' O FV)) (λk a=>by simpa using qT I' D.blk FV k a))
     have HX7:Hid (∀j,(λj=>if j=l then b l++[i] else b j) j=YQ (bs.take (i+1)) j):=λj=>by
      rw [U'.out j];by_cases h:j=l
      ·subst h;simp
      ·rw [qJ (λe:l=j=>h e.symm)];simp [h]
     have HM7:Hid (∀j,(λj=>if j=l then m l+1 else m j) j=((λj=>if j=l then b l++[i] else b j) j).length):=λj=>by
      by_cases h:j=l
      ·subst h;simp [L.out]
      ·simp only [h,if_false];exact L j
     replace V:=qj V
    focus clear Y' G' p' N' J' U z' Z' hf6 OX T hs6 I O m' I' N D R L U' cS fS cA G hne N9 X' r HML
    rotate_left
    focus clear Y' G' p' N' J' U z' Z' hf6 OX T hs6 I O m' I' N D R L U' cS fS cA G hne N9 X' r
    rotate_left
    all_goals
     generalize s.setCell ⟨g,34+l,none⟩ (.slice Y (m l+1) X)=w7 at*
     generalize (λj=>if j=l then m l+1 else m j)=m2 at*
     generalize (λj=>if j=l then Y else A j)=Ax at*
     generalize (λj=>if j=l then X else c j)=cx at*
     generalize (λj=>if j=l then b l++[i] else b j)=xs2 at*
     go_wp2_with fail
    ·go_roundw
     case rel=>exact⟨i+1,q2,m2,Ax,cx,xs2,by first|rfl|simp,uK,V,HB7,HL7,HC7,HX7,HM7,M'⟩
     case measure=>simp [intOf];omega
    ·go_roundw
     case rel=>exact⟨i+1,q,m2,Ax,cx,xs2,by first|rfl|simp,uK,V,HB7,HL7,HC7,HX7,HM7,M'⟩
     case measure=>simp [intOf];omega
  ·obtain rfl:i=n:=uK
   have hge: ¬(i:Int)<(i:Int):=uK;have hxs: ∀l,b l=YQ bs l:=λl=>by rw [R.out l,<-d'.out,jP]
   have hq:q=Pk bs:=funext λl=>by rw [HQ.out l,<-d'.out,tI]
   have hm:m=Pp bs:=funext λl=>by rw [L.out l,hxs l];rfl
   have hlt': ∀(l:Nat),l<16-> ∀k∈fpS (A l),k<wr.heap.size:=λl hl k a=>(zj (v.own l hl) k a).2;have hlL: ∀k∈fpS E,k<wr.heap.size:=λk a=>(zj Z k a).2;have hlC: ∀k∈fpS Ac,k<wr.heap.size:=λk a=>(zj Q k a).2;have hgl:=v.blk.lt;have HCDR:Hid (Cdr wr g w wr.heap.size bs):=by
    refine⟨⟨E,Ac,F,C,λl=> .slice (A l) (m l) (c l), ?_, ?_, ?_,λl hl=> ?_⟩,Q'.out,hgl,HOK.out⟩
    ·rw [d'.out,<-hq,<-hm];exact v.blk
    ·rw [d'.out];exact⟨Z.out,hlL⟩
    ·rw [d'.out];exact⟨Q.out,hlC⟩
    ·exact⟨A l,c l,by rw [hm],by rw [<-hm,<-hxs l];exact v.own l hl,hlt' l hl⟩
   clear hxs hq hm hlt' hlL hlC hgl v Z Q R L HQ
   go_wp2_with fail
   go_ret2;exact⟨g,rfl,HCDR.out,HB.out⟩
def Wg (w:World) (os:List Nat) (no:Nat) (e:Ending) (w':World):Prop:= ∃b a,e= .returned (.tuple #[.slice b no a,()])/\w'.ownsRow w 5 1 (.slice b no a) no ((X6 os 15).map B8)/\Below w w w'
theorem tN (h:(Z0 os).length=0):X6 os 15=List.replicate os 0:=by unfold X6;rw [qk h]
theorem S3 {s:Nat} (h:(Z0 os).length=1) (a:(Z0 os)[0]? =some s):X6 os 15=(List.replicate os 0).set s 1:=by
 unfold X6;rw [qJ uK,qk h];congr 1;cases b:Z0 os with
 |nil=>rw [b] at h;cases h
 |cons x t=>rw [b] at a;simpa using a
theorem tM (h:2<=(Z0 os).length):X6 os 15=ZL os (Z0 os) ((List.range 15).map (dn (pr os (Z0 os)) 14)):=by
 unfold X6;rw [qJ uK,qJ uK];have a:(pr os (Z0 os)).length=(Z0 os).length:=by simp [pr]
 have h1:=Wu (pr os (Z0 os)) 14;have h2:=Ey (pr os (Z0 os)) _ 15 0 rfl;rw [show(15-1:Nat)=14 from rfl,h1,<-a];have h3:pa (pr os (Z0 os)) 14 0=2*(pr os (Z0 os)).length-2:=rfl;rw [<-h3,h2];simp
theorem mI (Ao:Option Addr) (no co B:Nat) (os:List Nat) (w:World) (h:Reads w B 1 Ao no (os.map C32)) (hB:B<=w.heap.size) (hno:no<=300) (hf:mr os) (hos: ∀x∈os,x<=1000000):
  Calls prog 171 #[.slice Ao no co, .int .i64 15] w (Wg w os no):=by
 obtain⟨i0,hi,iL,m',hz2⟩:=qA xR;obtain⟨i1,hj,Y',hx1,hx2⟩:=qA mS;have O:=qj (mR Ao no co B os w h hB hno hf);have H:=qj h;have o:=qj hB;have N:=qj h.len;have HOS:=qj hos;have hno3: ¬(300:Int)<(no:Int):=uK;have hb1:i0.bytes*no<=281474976710656:=by rw [hz2];omega
 have U':no<=maxLen:=SJ;have hm300:(Z0 os).length<=300:=by rw [e_];have:=uF os 0;have:=N.out;omega
 replace hi:=qj hi;replace iL:=qj iL;replace m':=qj m';replace hz2:=qj hz2;replace hj:=qj hj;replace Y':=qj Y';replace hx1:=qj hx1;replace hx2:=qj hx2;clear h hB hf hos;obtain⟨m,hm⟩: ∃m,m=(Z0 os).length:=⟨_,rfl⟩;rw [<-hm] at O hm300;have P:=qj hm;clear hm;have hsh: ¬(32768:Int)<(m:Int):=uK;by_cases hm1:m=1
 focus
  subst hm1
  have hul:(Z0 os).length=1:=P.symm;obtain⟨s,d⟩: ∃s,(Z0 os)[0]? =some s:=⟨_,qX uK⟩;have R:=qj (S3 hul d);have M:=Fo (zQ d);rw [N.out] at M;replace d:=qj d;clear hul
 rotate_left
 focus
  by_cases hm0:m=0
  ·subst hm0
   have R:=qj (tN P.symm);clear hm1;go_enter func171,ntmps171
   go_wp2_with fail;refine O.mono ?_;rintro e n ⟨As,cs,rfl,F,G⟩;have C:=qj G;clear O F G;have E:Hid (w.heap.size<=n.heap.size):=C.size
   go_wp2_with (at_make;refine xP _ rfl _ _ 30 rfl w 5 i0 (.int .u8 0) 1 qu hi iL m' .i64 .i64 _ _ no rfl rfl rfl rfl hb1 U' E ?_;intro J a z;have A:=qj (C.grown z E (λk l=>by cases l));replace a:=qj a;clear z)
   have W:Hid (J.ownsRow w 5 1 (.slice n no no) no ((X6 os 15).map B8)):=by
    rw [R.out,N.out,yP];have D:=a.out;have e:(madeCells (Value.int .u8 0).cells (no*1)).toList=List.replicate no (.int .u8 0):=by rw [z_];exact xf _ _
    rw [e] at D;exact D
   clear a
   go_ret2;exact⟨_,_,rfl,W.out,A.out⟩
  focus
   have hm2:2<=m:=uK
   have R:=qj (tM (by rw [<-P.out];exact hm2))
   have hm1': ¬(m:Int)=1:=uK;have hm2': ¬(m:Int)<2:=uK;clear hm1 hm0
  rotate_left
 rotate_left
 all_goals
  go_enter func171,ntmps171
  go_wp2_with fail;refine O.mono ?_;rintro e n ⟨As,cs,rfl,F,G⟩;obtain⟨S,rfl⟩:=Zx F uK
  have D':=qj F;have C:=qj G;clear O F G;have E:Hid (w.heap.size<=n.heap.size):=C.size
 ·go_wp2_with (at_make;refine xP _ rfl _ _ 30 rfl w 5 i0 (.int .u8 0) 1 qu hi iL m' .i64 .i64 _ _ no rfl rfl rfl rfl hb1 U' E ?_;intro J a z;have A:=qj (C.grown z E (λk l=>by cases l));have T:=qj (D'.kept z (.inr (by simp [Value.ownBlock])));have c3:J.cell? S=some (s:Value):=(by rw [(xU T.out (Nat.succ_pos 0)).1,qD,d.out];rfl);have o3:=xU a M;rw [qX (by have:=a.1;omega)] at o3;obtain⟨o3,f3⟩:=o3;replace a:=qj a;clear z)
  have D:=Qn (k:=s) a (.int .u8 1);have HB5:=qj (A.setCell (p:=⟨n,s,none⟩) E (.int .u8 1));have W:Hid ((J.setCell ⟨n,s,none⟩ (.int .u8 1)).ownsRow w 5 1 (.slice n no no) no ((X6 os 15).map B8)):=by
   rw [R.out,N.out,JY,yP];have e:(madeCells (Value.int .u8 0).cells (no*1)).toList=List.replicate no (.int .u8 0):=by rw [z_];exact xf _ _
   rw [e] at D;exact D
  clear D a A T
  go_wp2_with fail
  go_ret2;exact⟨_,_,rfl,W.out,HB5.out⟩
 ·go_wp2_with (at_make;refine xP _ rfl _ _ 30 rfl w 5 i0 (.int .u8 0) 1 qu hi iL m' .i64 .i64 _ _ no rfl rfl rfl rfl hb1 U' E ?_;intro J a z;have A:=qj (C.grown z E (λk l=>by cases l));have T:=qj (D'.kept z (.inr (by simp [Value.ownBlock])));replace a:=qj a;clear z)
  have HO3:Hid (J.ownsRow w 5 1 (.slice n no no) no (List.replicate no (.int .u8 0))):=by
   have D:=a.out;have e:(madeCells (Value.int .u8 0).cells (no*1)).toList=List.replicate no (.int .u8 0):=by rw [z_];exact xf _ _
   rw [e] at D;exact D
  clear a D' C;generalize n.heap.size=c at*
  have KL:=qj (tF Ao S no co B m cs J os (Z0 os) J (H.below (A.mono o)) (qv o A.size) (Reads.zY T) (qx _) uK uK (λx f=>by have:=Fo f;have:=N.out;omega) (λx f=>by have:=HOS.out x f;omega))
  refine KL.mono ?_;rintro e b ⟨I,K,rfl,d',u'⟩;obtain⟨L,hL⟩: ∃L,L=pr os (Z0 os):=⟨_,rfl⟩;rw [<-hL] at d' R;have hLl:L.length=m:=by rw [hL,P.out];simp [pr]
  have hLt:Hid (∀x∈L,x.2=true):=by rw [hL];exact Ev _ _
  have hLw:Hid (∀x∈L,x.1<=1000000):=by
   rw [hL,Hid];intro x f;unfold pr at f;obtain⟨y,_,rfl⟩:=jB.1 f;show os.getD y 0<=_;rw [qd];cases hy:os[y]?with
   |none=>simp
   |some v=>exact HOS v (zQ hy)
  have HLO:=qj d';have Q':=qj (A.trans (u'.mono A.size));have HS4:=qj (qG T u');have HO4:=qj (qG HO3 u');have h34:=qj u'.size;have Y:=qj hLl;clear KL d' u' A T HO3 hL hLl;have HRW:Hid (Rws (b.alloc (.cells #[.slice I m K] 314)) b b 1 1 L):=by
   refine⟨[.slice I m K],⟨rfl, .inr ⟨b,1,_,rfl,qx _,Blk.new b _ _,qx _,SJ,rfl,rfl⟩⟩,λk l=> ?_⟩;obtain rfl:k=0:=uK;have h1:b.ownsRow 0 319 2 (.slice I L K) L (yC L):=by rw [Y.out];exact qi HLO (qp _)
   exact⟨_,rfl,I,K,by rw [show vi L 0=L from rfl,Y.out],h1.alloc _⟩
  have HBn:Hid (Below b b (b.alloc (.cells #[.slice I m K] 314))):=(qZ _ _).alloc (qx _) _
  go_wp2_with fail;generalize b.alloc (.cells #[.slice I m K] 314)=w5 at*
  go_loopw [9] (λv9 wr=> ∃(k cr:Nat) (Ar:Option Addr),v9= .slice Ar (k+1) cr/\k<=14/\Hid (Rws wr b Ar (k+1) cr L)/\Hid (Below b b wr)) (λv9 _=>15-Y8 v9)
  case atStart=>exact⟨0,1,_,rfl,uK,HRW,HBn⟩
  case round=>
   clear HRW HBn;obtain⟨k,cr,Ar,rfl,l,HR,o⟩:=hrel;by_cases hlt:k<14
   ·have hlt':(k:Int)+1<15:=uK
    obtain⟨V,A1,c1,rfl,M',X⟩:=HR.at_ (show k<k+1 by omega)
    have hll2:wr.ownsRow 0 319 2 (.slice I m K) m (yC L):=qG (qi HLO (qp _)) o.out;have J':=CF L k;rw [Y.out] at J';have KN:=qj (mw I A1 m K (vi L k).length c1 L (vi L k) wr hll2 X uK uK (λx f=>by
     have h1:=Wd L 1000000 hLw k x f;have h2:2^k<=2^14:=zZ uK uK;have h3:=yz 1000000 h2;have e:1000000*2^14=16384000000:=rfl;omega))
    have hnr:YY L (vi L k)=vi L (k+1):=rfl;rw [hnr] at KN;generalize (vi L k).length=lk at*
    have hk1:((k:Int)+1)-1=(k:Int):=uK;clear X hll2 J' hnr
    go_wp2_with fail;refine KN.mono ?_;rintro e w6 ⟨A6,c6,rfl,ho6,hB6⟩;have HR6:=HR.below hB6;obtain⟨vs,N9,hvv⟩:=HR6;have z':=qj N9;have HVV:=qj hvv;have W:=qj (qi ho6 (qp _));have p':=qj (o.trans (hB6.mono o.size));have hsz6:Hid (b.heap.size<=w6.heap.size):=p'.size;have hv1:(k+1)+1<=maxLen:=SJ
    have hv2:((k+1)+1)*24<=140737488355328:=uK;clear KN N9 hvv ho6 hB6 HR o M';generalize hR6:(vi L (k+1)).length=R6 at*
    replace hR6:=qj hR6
    go_wp2_with (at_builtin;refine qF _ rfl (.tmp 57) (.tmp 66) 316 rfl b 314 i1 (.slice none 0 0) 1 24 underlying316 hj Y' hx1 hx2 rfl uK V (k+1) cr vs rfl (z'.alloc _) (w6.heap.size+1) w6 1 1 [.slice A6 R6 c6] rfl (zU _ _ _) (one_one rfl) hv1 hv2 (qv hsz6 s8) ?_;intro A7 c7 w7 G' hg7 hs7;replace G':=qj G';have hg7b:=qj hg7;have HB7:=qj (zG (p'.alloc p'.size (.cells #[.slice A6 R6 c6] 314)) hg7 (z'.alloc _) (qv p'.size s8));clear hg7 hs7)
    have HR7:Hid (Rws w7 b A7 (k+1+1) c7 L):=Rws.push z' HVV R6 hR6.symm W hg7b G'.out;clear z' HVV W p' G' hg7b
    go_wp2_with fail;go_roundw
    case rel=>exact⟨k+1,c7,A7,s8,uK,HR7,HB7⟩
    case measure=>simp [Y8];omega
   ·have hk14:k=14:=uK
    subst hk14;obtain⟨W2,hW2⟩: ∃W2,W2=wr:=⟨_,rfl⟩;subst hW2;have HS2:=qj (qG HS4 o);have Z:=qj (qG HO4 o);have HB2:=qj (Q'.trans (o.mono Q'.size));have hgo:Hid (w.heap.size<=c):=(zj Z c (by simp [fpS])).1
    have hgs:Hid (S≠c):=λe=>xz HS2 Z FV S (by simp [fpS]) (by simp [fpS,e])
    clear o HS4 HO4 Q'
    go_wp2_with fail;go_loopw [10,11] (λv10 P' wr=> ∃(j:Nat) (i:Int),v10= .int .i64 (pa L 14 j:Nat)/\P'=(i:Value)/\Hid (i+(j:Int)=14)/\j<=15/\Hid (wr.ownsRow w 5 1 (.slice c no no) no ((ZL no (Z0 os) ((List.range j).map (dn L 14))).map B8))/\Hid (qE [c] W2 wr)) (λ_ P' _=>((intOf P')+1).toNat)
    case atStart=>
     refine⟨0,14, ?_, ?_,by rw [Hid];omega,uK, ?_,qE.refl _ _⟩
     ·show Value.int .i64 _=Value.int .i64 ((2*L.length-2:Nat):Int)
      rw [Y.out];congr 1;omega
     ·first|rfl|go_num|simp
     ·rw [show(List.range 0).map (dn L 14)=[] from rfl,te,yP]
      exact Z.out
    case round=>
     obtain⟨j,i,rfl,rfl,hij,hj15,u,g⟩:=hrel;have hijo:=hij.out;by_cases hj14:j<=14
     ·obtain⟨r,hr⟩: ∃r:Nat,r=14-j:=⟨_,rfl⟩
      obtain rfl:i=(r:Int):=uK;obtain⟨V,A1,c1,hAr,M',X⟩:=HR.at_ (show r<14+1 by omega)
      subst hAr;have hgrgo:V≠c:=by
       obtain⟨vs,N9,_⟩:=HR.out;exact λe=>xz N9 Z FV V (by simp [fpS]) (by simp [fpS,e])
      have htk:=iJ hLt (by rw [Y.out];exact hm300) j hj14
      rw [<-hr] at htk;have J':=CF L r;have hrl2:=Sm (leaf:=L) r;rw [Y.out] at J' hrl2;have Z':dn L 14 j=QX ((vi L r).take (pa L 14 j)):=by unfold dn;rw [<-hr]
      have X':pa L 14 (j+1)=2*(pa L 14 j-dn L 14 j):=rfl;have I':(List.range (j+1)).map (dn L 14)=(List.range j).map (dn L 14)++[dn L 14 j]:=by rw [jA,qg];rfl
      have hcell2:wr.cell? ⟨V,r,none⟩=some (.slice A1 (vi L r).length c1):=g.cell (p:=⟨V,r,none⟩) (by simpa using hgrgo) M'
      have hcap:=jC X;obtain⟨ns,hnsE⟩: ∃ns,ns=(List.range j).map (dn L 14):=⟨_,rfl⟩;rw [<-hnsE] at u I';have hnsl:ns.length=j:=by rw [hnsE];simp
      have HO':Hid (wr.ownsRow w 5 1 (.slice c no no) no ((ZL no (Z0 os) (ns++[0])).map B8)):=by rw [EZ];exact u.out
      have hrow2:=qj X;replace Z':=qj Z';replace X':=qj X';replace I':=qj I';replace hr:=qj hr;generalize pa L 14 j=t at*
      generalize (vi L r).length=lr at*
      obtain⟨h15,h16⟩:=hcap;have hr0:(r:Int)<14+1:=uK;have htc:(t:Int)<=(c1:Int):=uK;obtain⟨W3,hW3⟩: ∃W3,W3=wr:=⟨_,rfl⟩;subst hW3;clear X M' hijo u hnsE
      go_wp2_with fail;go_loopw [12,86] (λv12 v86 wr=> ∃(p q:Nat),v12=(q:Value)/\v86=(p:Value)/\p<=t/\q<=p/\Hid (q=QX ((vi L r).take p))/\Hid (wr.ownsRow w 5 1 (.slice c no no) no ((ZL no (Z0 os) (ns++[q])).map B8))/\Hid (qE [c] W2 wr)) (λ_ v86 _=>t-(intOf v86).toNat)
      case atStart=>exact⟨0,0,rfl,rfl,qp _,qx _,by simp [Hid,QX],HO',g⟩
      case round=>
       clear HO' g hcell2;obtain⟨p,q,rfl,rfl,hp,hqp,Q,u,g⟩:=hrel;by_cases hlt:p<t
       ·have hlt':(p:Int)<(t:Int):=uK
        have S':=g.own hrow2 (xz hrow2 Z FV);obtain⟨gx,x,rfl,f,x1,x2⟩:=UH S' (show p<lr by omega)
        have O':(vi L r).take (p+1)=(vi L r).take p++[x]:=by rw [qs,f];rfl
        have U:QX ((vi L r).take (p+1))=q+if x.2=true then 1 else 0:=by
         rw [O'];unfold QX at Q⊢;rw [vx,qK,<-Q.out];cases h:x.2<;>simp [QQ,h]
        cases N6:x.2
        ·rw [N6] at x2 U
         have OX:Hid (q=QX ((vi L r).take (p+1))):=by rw [Hid,U];simp
         clear U O' f N6 Q S'
         go_wp2_with fail;go_roundw
         case rel=>exact⟨p+1,q,rfl,by first|rfl|simp,uK,uK,OX,u.alloc _,g.alloc _⟩
         case measure=>simp [intOf];omega
        ·rw [N6] at x2 U
         have OX:Hid (q+1=QX ((vi L r).take (p+1))):=by rw [Hid,U];simp
         have hqm:q<m:=by
          have h1:=tC (vi L r) (p+1);have:=OX.out;omega
         obtain⟨s,d⟩: ∃s,(Z0 os)[q]? =some s:=⟨_,qX (by rw [<-P.out];exact hqm)⟩
         have M:=Fo (zQ d);rw [N.out] at M;have hst:=EJ (no:=no) (ns:=ns) (FI os) d M;have d':=mn ns q;have hSr:=g.own HS2 (λk l=>by simp [fpS] at l;subst l;simpa using hgs.out)
         have csq:(wr.alloc (.cells #[.int .u64 (x.1:Int), .bool true] 319)).cell? ⟨S,q,none⟩=some (s:Value):=by
          rw [(xU (hSr.alloc _) hqm).1,qD,d];rfl
         have N':=u.alloc (.cells #[.int .u64 (x.1:Int), .bool true] 319);have hidx:(Z0 os).idxOf s=q:=by
          have hql:q<(Z0 os).length:=by rw [<-P.out];exact hqm
          have e:(Z0 os)[q]=s:=by rw [qX hql] at d;exact zy d
          rw [<-e];exact List.Nodup.idxOf_getElem (FI os) q hql
         have co:(wr.alloc (.cells #[.int .u64 (x.1:Int), .bool true] 319)).cell? ⟨c,s,none⟩=some (.int .u8 (Pr ns q:Nat)):=by
          rw [(xU N' M).1,qD,Ph _ _ _ M,qk (zQ d),hidx,kU,qJ (Nat.lt_irrefl q)];show some (Value.int .u8 ((UInt8.ofNat (Pr ns q+0)).toNat:Int))=_;rw [zS,jk uK];rfl
         have cf:(wr.alloc (.cells #[.int .u64 (x.1:Int), .bool true] 319)).frozen? ⟨c,s,none⟩=false:=(xU N' M).2;have hOn:Hid (((wr.alloc (.cells #[.int .u64 (x.1:Int), .bool true] 319)).setCell ⟨c,s,none⟩ (.int .u8 ((Pr ns q+1:Nat):Int))).ownsRow w 5 1 (.slice c no no) no ((ZL no (Z0 os) (ns++[q+1])).map B8)):=by
          have h1:=Qn (k:=s) N' (.int .u8 ((Pr ns q+1:Nat):Int));rw [Hid,hst,JY];have e:B8 (UInt8.ofNat (Pr ns q+1))= .int .u8 ((Pr ns q+1:Nat):Int):=by
           unfold B8;rw [zS,jk uK]
          rw [e];exact h1
         have hMn:=qj ((g.alloc (.cells #[.int .u64 (x.1:Int), .bool true] 319)).zh (p:=⟨c,s,none⟩) (qy.2 rfl) (.int .u8 ((Pr ns q+1:Nat):Int)));have hlo15:Pr ns q<=15:=uK;have hsn':(s:Int)<(no:Int):=uK;have hqm':(q:Int)<(m:Int):=uK;generalize Pr ns q=lo at*
         have hw8:IntKind.u8.wrap ((lo:Int)+1)=(lo:Int)+1:=by rw [va];omega
         clear U O' f N6 Q S' d hst hSr N' hidx u g d'
         go_wp2_with fail;go_roundw
         case rel=>exact⟨p+1,q+1,by first|rfl|simp,by first|rfl|simp,uK,uK,OX,by simpa using hOn,by simpa using hMn⟩
         case measure=>simp [intOf];omega
       ·have hge: ¬(p:Int)<(t:Int):=uK
        obtain rfl:p=t:=uK;have hqn:Hid (q=dn L 14 j):=by rw [Hid,Z'.out];exact Q.out
        have hO9:Hid (wr.ownsRow w 5 1 (.slice c no no) no ((ZL no (Z0 os) ((List.range (j+1)).map (dn L 14))).map B8)):=by rw [Hid,I'.out,<-hqn.out];exact u.out
        have ht9:Hid (2*((p:Int)-(q:Int))=((pa L 14 (j+1):Nat):Int)):=by rw [Hid,X'.out,<-hqn.out];omega
        clear u Q
        go_wp2_with fail;go_roundw
        case rel=>exact⟨j+1,(r:Int)-1,by rw [<-ht9.out],by go_num,by have:=hij.out;rw [Hid];omega,uK,hO9,g⟩
        case measure=>simp [intOf]
     ·obtain rfl:j=15:=uK
      obtain rfl:i= -1:=uK;have HO9:Hid (wr.ownsRow w 5 1 (.slice c no no) no ((X6 os 15).map B8)):=by rw [R.out,N.out];exact u.out
      have HB9:Hid (Below w w wr):=HB2.trans (g.below (λk l=>by rw [qy.1 l];exact hgo) HB2.size)
      clear hijo u g
      go_wp2_with fail
      go_ret2;exact⟨_,_,rfl,HO9.out,HB9.out⟩
theorem Pc (s:Bw) (x:Nat) (n:Int):(PR s x n).n<=s.n+64:=by
 unfold PR;split
 ·rename_i h;rw [YH];unfold G4 at h;split at h
  ·cases h
  ·omega
 ·omega
theorem VM (ls:qn) (s:Bw) (x:Int):(pd ls s x).n<=s.n+64:=by
 unfold pd;split
 ·omega
 ·exact Pc _ _ _
theorem ke: ∀(f:Nat) (s:Bw) (l:qn),(QR f s l).n<=s.n+10*f
 |0,s,l=>by simp [QR]
 |f+1,s,[]=>by show s.n<=_;omega
 |f+1,s,x::t=>by
  unfold QR;split
  ·have:=ke f (Jh s x.toNat 4) t
   rw [YH] at this;omega
  ·have:=ke f (Jh (Jh s 0 4) (XT 63 t) 6) (t.drop (XT 63 t))
   rw [YH,YH] at this;omega
theorem DZ (s:Bw) (l:qn):(dc s l).n<=s.n+10*l.length:=by
 unfold dc;split
 ·exact ke _ _ _
 ·omega
theorem nK (ls lf:qn) (s:Bw) (t:Nat×Nat×Nat):(DT ls lf s t).n<=s.n+256:=by
 unfold DT;split
 ·have:=VM ls s (Qo t).1;omega
 ·have h1:=VM ls s (Qo t).1;generalize pd ls s (Qo t).1=a at*;have h2:=Pc a (Qo t).2.1 (((Qo t).1:Int)-257);generalize PR a (Qo t).2.1 (((Qo t).1:Int)-257)=b at*;have h3:=VM lf b (Qo t).2.2.1;generalize pd lf b (Qo t).2.2.1=c at*;have h4:=Pc c (Qo t).2.2.2 (Qo t).2.2.1;omega
def EH (W:World) (g:Nat) (t:TypeId) (rest:List Value) (A:q') (s:Bw) (ls:qn) (e:Ending) (a:World):Prop:=
 ∃c lo hi b d,e= .returned (.pointer (some ⟨c,0,none⟩))/\Cdr a c lo hi ls/\W.heap.size<=lo/\hi<=a.heap.size/\Wr a g t rest b d (dc s ls)/\WrK W a g A b/\ ∀k∈g::fpS b,k<lo
theorem Wr.far {W:World} {g cap:Nat} {t:TypeId} {rest:List Value} {A:q'} {s:Bw} (h:Wr W g t rest A cap s): ∀k∈g::fpS A,k<W.heap.size:=λk a=>by
 rcases qL.1 a with rfl|a
 ·exact h.blk.lt
 ·exact(zj h.own k a).2
theorem DJ (W:World) (g:Nat) (t:TypeId) (rest:List Value) (A:q') (cap:Nat) (s:Bw) (l:q') (no G B:Nat) (os:List Nat) (D:Wr W g t rest A cap s) (h:Reads W B 1 l no (os.map C32)) (X:B<=W.heap.size) (Q:no<=300) (F:mr os) (L: ∀x∈os,x<=1000000) (Y:s.n<=400000000) (K:Y2 (X6 os 15)=0):
  Calls prog 120 #[.pointer g, .slice l no G] W (EH W g t rest A s (X6 os 15)):=by
 have o:=qj (mI l _ G B _ W h X Q F L);have f:=qj D;have I:=qj K;clear h F L K D;unfold Wg at o;generalize X6 os 15=ls at*;go_in;go_wp2_with fail;refine o.mono ?_;rintro e H ⟨v,z,rfl,i,m⟩;have J:=qj (f.fresh m);have p:=qj i;have N:Hid (Off v (g::fpS A)):=λS V a=>by
  subst V;have:=(zj i S.block (by simp [fpS])).1;have:=f.far _ a;omega
 have c:=qj (CU H g t _ A _ s v _ z H _ J (Reads.zY i) (qx _) N uK);have b:=qj m;rw [I.out] at c;unfold XX at c;clear i m;go_wp2_with fail;refine zC c ?_;rintro q ⟨U,R,C,u⟩;have E:=qj (u.jZ.own p (λk a P=>by
  have:=(zj p k a).1;have:=f.far _ P;omega))
 have M:=qj (BZ v _ z q _ q (Reads.zY E) (qx _) I);have j:=qj C;have d:=qj u;clear C u;go_wp2_with fail;refine M.mono ?_;rintro e w ⟨O,rfl,y,r⟩;have T:Hid (EH W g t rest A s ls (.returned (.pointer O)) w):=
  ⟨O,q,w,U,R,rfl,y,qv b.size d.jZ.size,qx _,j.fresh r,
   ⟨((qE.jq b).trans d.jZ (λk a=> .inl a)).fresh r,λk a=>(d.fp k a).imp id (λh2=>qv b.size h2)⟩,j.far⟩
 clear y r j d b;go_wp2;go_ret;exact T.out
def PT (g:Nat):Value:= .pointer g
structure TW (W:World) (g:Nat) (A:q') (cap:Nat) (s:Bw) (gs los his:Nat) (ls:qn) (gf lof hif:Nat) (lf:qn):Prop where
 wr:Wr W g 190 [PT gs,PT gf] A cap s
 cs:Cdr W gs los his ls
 cf:Cdr W gf lof hif lf
 sep: ∀k∈g::fpS A,(k<los\/his<=k)/\(k<lof\/hif<=k)
 hs:his<=W.heap.size
 hf:hif<=W.heap.size
end
section
variable {A A':q'}{W W':World}{cap cap' g gf gs hif his lof los:Nat}{lf ls:qn}{s s':Bw}
theorem TW.step (h:TW W g A cap s gs los his ls gf lof hif lf) (c:Wr W' g 190 [PT gs,PT gf] A' cap' s') (a:WrK W W' g A A'):TW W' g A' cap' s' gs los his ls gf lof hif lf:=
 ⟨c,h.cs.jZ a.jZ (λk a=>(h.sep k a).1),h.cf.jZ a.jZ (λk a=>(h.sep k a).2),λk b=>by
  rcases qL.1 b with rfl|b
  ·exact h.sep _ (qo ..)
  ·rcases a.fp k b with h1|h1
   ·exact h.sep k (qM _ h1)
   ·exact⟨.inr (qv h.hs h1), .inr (qv h.hf h1)⟩,
  qv h.hs a.jZ.size,qv h.hf a.jZ.size⟩
theorem TW.fresh (h:TW W g A cap s gs los his ls gf lof hif lf) (a:Below W W W'):TW W' g A cap s gs los his ls gf lof hif lf:=
 h.step (h.wr.fresh a) ⟨qE.jq a,λ_ h=> .inl h⟩
theorem TW.drew (h:TW W g A cap s gs los his ls gf lof hif lf):TW W.drew g A cap s gs los his ls gf lof hif lf:=h.fresh ((Dr.refl W|>.drewN 1).below _)
theorem TW.XZ (h:TW W g A cap s gs los his ls gf lof hif lf):W.cell? ⟨g,2,none⟩=some (PT gs):=by rw [h.wr.blk.cell 2];simp
theorem TW.lX (h:TW W g A cap s gs los his ls gf lof hif lf):W.cell? ⟨g,3,none⟩=some (PT gf):=by rw [h.wr.blk.cell 3];simp
theorem TW.lV (h:TW W g A cap s gs los his ls gf lof hif lf) (x:Int) (b:s.n<=900000000):
  Calls prog 122 #[PT gs,PT g,x] W (XX W g 190 [PT gs,PT gf] A (.int .i64 (Ht ls x)) (pd ls s x)):=
 Bv W _ _ _ _ g _ _ A _ s x h.cs h.wr b (λk a=>(h.sep k a).1)
theorem TW.Lp (h:TW W g A cap s gs los his ls gf lof hif lf) (x:Int) (b:s.n<=900000000):
  Calls prog 122 #[PT gf,PT g,x] W (XX W g 190 [PT gs,PT gf] A (.int .i64 (Ht lf x)) (pd lf s x)):=
 Bv W _ _ _ _ g _ _ A _ s x h.cf h.wr b (λk a=>(h.sep k a).2)
theorem nk {t:Nat×Nat×Nat} (h:Bp t):(Qo t).2.1<65536/\(Qo t).2.2.2<65536:=by
 obtain⟨lt,a,b⟩:=t;obtain⟨h1,h2⟩:=h;dsimp only at h1 h2;unfold Qo;dsimp only;by_cases h0:a=0
 ·rw [qk h0];exact⟨by show 0<65536;omega,by show 0<65536;omega⟩
 ·rw [qJ h0];unfold YB at h2;rw [qJ uK] at h2;have:=xD h2;exact⟨vQ (Qd _ _) uK,vQ (Qd _ _) uK⟩
theorem Eb (W:World) (g:Nat) (A:q') (cap:Nat) (s:Bw) (D Y' P':Nat) (ls:qn) (gf O' hif:Nat) (lf:qn) (t:Nat×Nat×Nat) (h:TW W g A cap s D Y' P' ls gf O' hif lf) (ht:Bp t) (hl:s.n<=800000000):
  Calls prog 121 #[PT g, .agg #[.int .u8 (t.1:Int),(t.2.1:Int),(t.2.2:Int)]] W (XX W g 190 [PT D,PT gf] A (.tuple #[]) (DT ls lf s t)):=by
 have F:=λW=>qj (BP t W ht);have H:=qj h;obtain⟨N6,Z',Q'⟩:=EG ht;obtain⟨N9,S'⟩:=nk ht;obtain⟨K,j⟩:=j1 (DT ls lf s t);rw [<-j];unfold DT at j;replace j:=qj j;unfold pcT pcC at F;generalize Qo t=pp at*;obtain⟨a,d,c,i⟩:=pp;obtain⟨t0,t1,t2⟩:=t;dsimp only at F N6 Z' Q' N9 S' j⊢;clear h ht;have x:Hid (∀g,PT g= .pointer (some ⟨g,0,none⟩)):=λ_=>rfl;rw [x.out g];go_in;go_wp2_with fail;refine zC (F _).out ?_;intro q N;have T:=(H.fresh (z8 _)).fresh N;have C:=qj (T.fresh (z8 (.cells #[a,d,c,i] 254)));have HK:Hid (WrK W (q.alloc (.cells #[a,d,c,i] 254)) g A A):=⟨((((qE.refl _ W).alloc _).fresh N).alloc _),λ_ h=> .inl h⟩;have L:Hid (Blk (q.alloc (.cells #[a,d,c,i] 254)) q 254 #[a,d,c,i]):=Blk.new _ _ _;have u:Hid (q.heap.size∉g::fpS A):=λl=>by
  have:=T.wr.far _ l;omega
 have c2:=C.out.XZ;have q0:=L.cell 0;clear T N F;have y:=qj (C.drew.lV (a:Int) uK);rw [x.out D] at c2 y;rw [x.out g] at y;unfold XX at y;go_wp2_with fail;generalize q.alloc (.cells #[a,d,c,i] 254)=w2,q.heap.size=b at*;refine zv 10 (λW=>W.cell? ⟨g,2,none⟩=some (.pointer D)/\W.cell? b=some (a:Value)) AL ⟨c2,q0⟩ (λf=> ?_);refine zq [0,1,2,3,4,5] (a':= ?_) ?_;refine zq [6,7,8] (a':= ?_) ?_;refine vf 9 y ?_;rintro e U ⟨rfl,A3,z',V,m⟩;refine⟨_,rfl,(⟨(by rw [V.blk.cell 2];simp [PT]),m.jZ.cell (p:= b) u q0⟩),λf=> ?_⟩;refine zV AL ?_ _;have J:=qj (C.drew.step V m);have v:=qj (m.jZ.blk L.drew u);have iL:=qj (HK.drew.trans m);have o:Hid (b∉g::fpS A3):=λl=>by
  rcases qL.1 l with h|h
  ·exact u (by rw [h];exact qo ..)
  ·rcases m.fp _ h with h|h
   ·exact u (qM _ h)
   ·have:=L.lt;have e:w2.drew.heap.size=w2.heap.size:=rfl;omega
 have Z:Hid ((pd ls s (a:Int)).n<=800000064):=by have:=VM ls s (a:Int);rw [Hid];omega
 clear V m c2 q0 f;have q0:=v.cell 0;by_cases m':a<256
 ·have X':(a:Int)<256:=uK;have G:Hid (K=pd ls s (a:Int)):=by rw [Hid,j.out,qk m']
  go_wp2;go_end0;unfold XX;rw [G.out];exact⟨rfl,A3,z',J.wr,iL⟩
 ·have X': ¬(a:Int)<256:=uK;have G:Hid (K=PR (pd lf (PR (pd ls s (a:Int)) d ((a:Int)-257)) (c:Int)) i (c:Int)):=by rw [Hid,j.out,qJ m']
  generalize pd ls s (a:Int)=M at*;have wl:IntKind.u64.wrap (d:Int)=(d:Int):=by rw [qS];omega
  have wf:IntKind.u64.wrap (i:Int)=(i:Int):=by rw [qS];omega
  have wm:IntKind.i64.wrap ((a:Int)-257)=(a:Int)-257:=SX;have q1:=v.cell 1;have Q:=qj (V_ U.drew g _ _ A3 z' M d ((a:Int)-257) J.drew.wr uK (by have:=Z.out;omega));unfold XX at Q;go_wp2_with fail;refine zv 10 (λW=>W.cell? b=some (a:Value)/\W.cell? ⟨b,1,none⟩=some (d:Value)) AL ⟨q0,q1⟩ (λf=> ?_);refine zq [0,1,2,3,4,5] (a':= ?_) ?_;refine zq [6,7,8] (a':= ?_) ?_;refine vf 9 Q ?_;rintro e w4 ⟨rfl,A4,cap4,M',k⟩;refine⟨_,rfl,(⟨k.jZ.cell (p:= b) o q0,k.jZ.cell (p:=⟨b,1,none⟩) o q1⟩),λf=> ?_⟩;refine zV AL ?_ _;have I:=qj (J.drew.step M' k);have E:=qj (k.jZ.blk v.drew o);have I':=qj (iL.drew.trans k);have z:Hid (b∉g::fpS A4):=λl=>by
   rcases qL.1 l with h|h
   ·exact o (by rw [h];exact qo ..)
   ·rcases k.fp _ h with h|h
    ·exact o (qM _ h)
    ·have:=v.lt;have e:U.drew.heap.size=U.heap.size:=rfl;omega
  have Y:Hid ((PR M d ((a:Int)-257)).n<=800000128):=by have:=Pc M d ((a:Int)-257);have:=Z.out;rw [Hid];omega
  clear M' k q0 q1 f wl wm;generalize PR M d ((a:Int)-257)=O at*;have q2:=E.cell 2;have X:=I.lX;have w:=qj (I.drew.Lp (c:Int) (by have:=Y.out;omega));rw [x.out gf] at X w;rw [x.out g] at w;unfold XX at w;go_wp2_with fail;refine zv 10 (λW=>W.cell? ⟨g,3,none⟩=some (.pointer gf)/\W.cell? ⟨b,2,none⟩=some (c:Value)) AL ⟨X,q2⟩ (λf=> ?_);refine zq [0,1,2,3,4,5] (a':= ?_) ?_;refine zq [6,7,8] (a':= ?_) ?_;refine vf 9 w ?_;rintro e w5 ⟨rfl,A5,U',P,r⟩;refine⟨_,rfl,(⟨(by rw [P.blk.cell 3];simp [PT]),r.jZ.cell (p:=⟨b,2,none⟩) z q2⟩),λf=> ?_⟩;refine zV AL ?_ _;have u':=qj (I.drew.step P r);have d':=qj (r.jZ.blk E.drew z);have p':=qj (I'.drew.trans r);have R:Hid (b∉g::fpS A5):=λl=>by
   rcases qL.1 l with h|h
   ·exact z (by rw [h];exact qo ..)
   ·rcases r.fp _ h with h|h
    ·exact z (qM _ h)
    ·have:=E.lt;have e:w4.drew.heap.size=w4.heap.size:=rfl;omega
  have G':Hid ((pd lf O (c:Int)).n<=800000192):=by have:=VM lf O (c:Int);have:=Y.out;rw [Hid];omega
  clear P r q2 X f;generalize pd lf O (c:Int)=s5 at*;have q2:=d'.cell 2;have q3:=d'.cell 3;have S:=qj (V_ w5.drew g _ _ A5 U' s5 i (c:Int) u'.drew.wr uK (by have:=G'.out;omega));unfold XX at S;go_wp2_with fail;refine zv 9 (λW=>W.cell? ⟨b,2,none⟩=some (c:Value)/\W.cell? ⟨b,3,none⟩=some (i:Value)) AL ⟨q2,q3⟩ (λf=> ?_);refine zq [0,1,2,3,4,5] (a':= ?_) ?_;refine zq [6,7] (a':= ?_) ?_;refine vf 8 S ?_;rintro e w6 ⟨rfl,A6,OX,J',B⟩;refine⟨_,rfl,(⟨B.jZ.cell (p:=⟨b,2,none⟩) R q2,B.jZ.cell (p:=⟨b,3,none⟩) R q3⟩),λf=> ?_⟩;refine zV AL ?_ _;have D':=qj J';have N':=qj (p'.drew.trans B);rw [<-G.out] at D';clear J' B q2 q3 f;go_wp2;go_end0;exact⟨rfl,A6,OX,D',N'⟩
end
end Go.Proofs.YtfnlfpcfkbdcmaaGreatDoor
