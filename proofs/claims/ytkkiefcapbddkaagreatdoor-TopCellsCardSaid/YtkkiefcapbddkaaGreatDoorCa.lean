/- part of topCells.proved -/
import Derived.Test.YtkkiefcapbddkaaGreatDoorWp
set_option linter.all false
set_option maxRecDepth 1000000
set_option maxHeartbeats 0
noncomputable section
namespace Go.Abs
open Go Go.Proofs
def pW:V:=.a [iN 1048576,iN 6400,.l 1 [[.x .i64 (.v 1) 1 500]]]
def Pu(i:Nat):D:=.x .i64 (.v i) 0 5000
def Ww(n:Nat):List D:=iN 7::Pu 13::Pu 13::(bh 0 0++[.s (List.replicate n (.c 119)),.z])
def kZ(n:Nat):List D:=iN 5::Pu 12::Pu 12::(bh 6 4278190335++[.s [],.l 57 [Ww n]])
def Ze:Ex:=.div (.mul (.v 1) (.c 1024)) (.c 1024)
def SZ:Nat->Ex
 |0=>.c 0
 |n+1=>.add (SZ n) Ze
def sJ(n:Nat):V:=.tu [.d (.x .i64 (.add (SZ n) (.c 0)) n (500*n:Nat)),.d (.x .i64 (.add (.add (.c 0) (SZ n)) (.c 0)) n (500*n:Nat))]
def cX:D:=.x .i64 (.v 2) 0 30000
def cY:D:=.x .i64 (.v 3) 0 10000
def cW:D:=.x .i64 (.v 4) 1 4500
def tG:List D:=[iN 0,iN 0,iN 0,iN 0,iN 0,iN 0,iN 0,iN 0,iN 0,iN 0,iN 0,iN 0,cW]
def ol(n:Nat)(h:D):List V:=[pW,.a (kZ n),.d cX,.d cY,.a [cW,iN 0,.b false],.a [.q 13 [tG] 0 0,h,.np]]
def hEx:Ex:=.sub (.add (.add (.add (.add (.c 0) (.v 3)) (.c 0)) (.c 0)) (.c 1280)) (.add (.add (.add (.c 0) (.v 3)) (.c 0)) (.c 0))
def gly(n:Nat):List D:=Pu 13::.s (List.replicate n (.c 119))::.x .i64 (.add (.add (.add (.c 0) (.v 2)) (.c 0)) (.c 0)) 0 30000::.x .i64 (.sub (.add (.add (.add (.add (.c 0) (.v 3)) (.c 0)) (.c 0)) (.c 1280)) (.c 1280)) 0 10000::.x .i64 (SZ n) n (500*n:Nat)::iN 1280::bh 0 0
def Nf:List D:=iN 5::Pu 12::Pu 12::(bh 6 4278190335++[.s [],.z])
def CO(n:Nat)(b d e:D):V:=.a (Nf++([cX,cY,.x .i64 (.add (.v 4) (.c 0)) 1 4500,b]++([.x .i64 (.add (.v 2) (.c 0)) 0 30000,.x .i64 (.add (.v 3) (.c 0)) 0 10000,.x .i64 (.sub (.sub (.add (.v 4) (.c 0)) (.c 0)) (.c 0)) 1 4500,d]++
 ([.l 58 [gly n],.z]++([cX,cY,.x .i64 (.add (.v 4) (.c 0)) 1 4500,b]++(tG++[e,.z]))))))
def xC(n:Nat):V:=CO n (.x .i64 (.add hEx (.c 0)) (-8720) 11280) (.x .i64 (.max (.sub (.sub (.add hEx (.c 0)) (.c 0)) (.c 0)) (.c 0)) 0 11280) (.x .i64 hEx (-8720) 11280)
def xD(n:Nat):V:=CO n (iN 1280) (iN 1280) (iN 1280)
def hq:D:=.q 1 [[iN 1280]] 0 0
def BD(E:En)(k:Nat)(f:FuncId)(args:List V)(y:V):Bool:=
 Rs.rec (fun r=>Option.rec false (fun p=>Hb p.1 y) (yI r.2.1 r.1)) (fun _=>false) (runK E k f args [] 0)
def Zf[de]{P:Program}{E:En}(c:J2 P E)(d:XR E){k:Nat}{f:FuncId}{args:List V}{y:V}(g:iS args=some args)(h:BD E k f args y=true):fW P f/\PC P f args y:=by
 unfold BD at h;cases a:runK E k f args [] 0 with
 |no e=>rw[a]at h;cases h
 |ok r=>
  rw[a]at h;have h:(Option.rec false (fun p=>Hb p.1 y) (yI r.2.1 r.1):Bool)=true:=h;cases b:yI r.2.1 r.1 with
  |none=>rw[b]at h;cases h
  |some p=>
   rw[b]at h;have h:=MA (show Hb p.1 y=true from h);subst h;exact Mn c d g a (h2:=p.2) b
open Go.RowKit
mutual
def pD[de]:D->D
 |.i k n=>.i k n
 |.x k e d g=>.i k e.val
 |.b x=>.b x
 |.s x=>.s x
 |.z=>.z
 |.np=>.np
 |.nf=>.nf
 |.nm=>.nm
 |.l sz a=>.l sz (jv a)
 |.q sz a i j=>.q sz (jv a) i j
 |.f fn first c=>.f fn first c
 |.o i=>.o i
def kC[de]:List D->List D
 |[]=>[]
 |d::l=>pD d::kC l
def jv[de]:List (List D)->List (List D)
 |[]=>[]
 |r::l=>kC r::jv l
end
mutual
def pX:D->Bool
 |.s x=>x.all fun b=>match b with|.c _=>true|.x _ _ _=>false
 |.l _ a=>jA a
 |.q _ a _ _=>jA a
 |.f _ _ _=>false
 |.o _=>false
 |_=>true
def jw:List D->Bool
 |[]=>true
 |d::l=>pX d&&jw l
def jA:List (List D)->Bool
 |[]=>true
 |r::l=>jw r&&jA l
end
def ou[de]:∀l:List D,kC l=l.map pD
 |[]=>rfl
 |d::l=>by unfold kC;rw[ou l];rfl
def ow[de]:∀l:List (List D),jv l=l.map (·.map pD)
 |[]=>rfl
 |d::l=>by unfold jv;rw[ow l,ou];rfl
def jW:∀{l:List D},jw l=true->∀d∈l,pX d=true
 |d::l,h,x,a=>by
  unfold jw at h;rw[ax]at h;rcases aw.1 a with rfl|a
  .exact h.1
  .exact jW h.2 x a
def mM:∀{l:List (List D)},jA l=true->∀r∈l,jw r=true
 |d::l,h,x,a=>by
  unfold jA at h;rw[ax]at h;rcases aw.1 a with rfl|a
  .exact h.1
  .exact mM h.2 x a
def K5(p A:de){F:Nat->Nat}{w:World}{d:D}{v:Value}(h: @RD p F w d v):pX d=true-> @RD A F w (@pD p d) v:=by
 induction h with
 |i k n=>intro _;exact @RD.i A F w k n
 |x k e V W L M=>intro _;exact @RD.i A F w k _
 |b x=>intro _;exact @RD.b A F w x
 |s x b h=>
  intro H;refine @RD.s A F w x b (@SR.mk A x b.data.toList (@SR.len p x b.data.toList h) (fun i y u L M=>?_));have X:=List.all_eq_true.1 (show(x.all fun b=>match b with|.c _=>true|.x _ _ _=>false)=true from H) y (List.mem_of_getElem? L);cases y with
  |c n=>exact @SR.at_ p x b.data.toList h i (.c n) u L M
  |x e V W=>cases X
 |z=>intro _;exact @RD.z A F w
 |np=>intro _;exact @RD.np A F w
 |nf=>intro _;exact @RD.nf A F w
 |nm=>intro _;exact @RD.nm A F w
 |o i v h _=>intro H;cases H
 |lz sz=>intro _;exact @RD.lz A F w sz
 |l sz a b I cap c t N O P Q H Y R h ih=>
  intro J;have B:=mM (show jA a=true from J);have m:(a.map (·.map (@pD p))).length=a.length:=List.length_map _;have:= @RD.l A F w sz (a.map (·.map (@pD p))) b I cap c t N O (by rw[m];exact P) Q H (by rw[m];exact Y)
   (fun r K=>by obtain⟨C,S,rfl⟩:=List.mem_map.1 K;rw[aj];exact R C S)
   (
    fun i r j d u E G T=>by
    rw[ai]at E;cases hq:a[i]? with
    |none=>rw[hq]at E;cases E
    |some C=>
     rw[hq]at E;cases E;rw[ai]at G;cases g:C[j]? with
     |none=>rw[g]at G;cases G
     |some d0=>
      rw[g]at G;cases G;exact ih i C j d0 u hq g T (jW (B C (List.mem_of_getElem? hq)) d0 (List.mem_of_getElem? g)))
  rw[m]at this;show @RD A F w (.l sz (@jv p a)) _;rw[show @jv p a=a.map (·.map (@pD p))from @ow p a];exact this
 |q sz a i j b I c t N O P Q R h ih=>
  intro J;have B:=mM (show jA a=true from J);have m:(a.map (·.map (@pD p))).length=a.length:=List.length_map _;have:= @RD.q A F w sz (a.map (·.map (@pD p))) i j b I c t N O (by rw[m];exact P) Q
   (fun r K=>by obtain⟨C,S,rfl⟩:=List.mem_map.1 K;rw[aj];exact R C S)
   (
    fun i r j d u E G T=>by
    rw[ai]at E;cases hq:a[i]? with
    |none=>rw[hq]at E;cases E
    |some C=>
     rw[hq]at E;cases E;rw[ai]at G;cases g:C[j]? with
     |none=>rw[g]at G;cases G
     |some d0=>
      rw[g]at G;cases G;exact ih i C j d0 u hq g T (jW (B C (List.mem_of_getElem? hq)) d0 (List.mem_of_getElem? g)))
  show @RD A F w (.q sz (@jv p a) i j) _;rw[show @jv p a=a.map (·.map (@pD p))from @ow p a];exact this
 |f fn first U Z us L M g1 g2=>intro H;cases H
mutual
def Bw[de]:D->Prop
 |.x _ e b c=>b<=e.val/\e.val<=c
 |.l _ a=>pE a
 |.q _ a _ _=>pE a
 |_=>True
def uP[de]:List D->Prop
 |[]=>True
 |d::l=>Bw d/\uP l
def pE[de]:List (List D)->Prop
 |[]=>True
 |r::l=>uP r/\pE l
end
def uQ[de]:∀{l:List D},uP l->∀d∈l,Bw d
 |d::l,h,x,a=>by
  unfold uP at h;rcases aw.1 a with rfl|a
  .exact h.1
  .exact uQ h.2 x a
def wb[de]:∀{l:List (List D)},pE l->∀r∈l,uP r
 |d::l,h,x,a=>by
  unfold pE at h;rcases aw.1 a with rfl|a
  .exact h.1
  .exact wb h.2 x a
def Ag(g T:de){F:Nat->Nat}{w:World}{d':D}{v:Value}(h: @RD T F w d' v):∀d:D,@pD g d=d'-> @Bw g d->pX d=true-> @RD g F w d v:=by
 induction h with
 |i k n=>
  intro d m C p;cases d with
  |i k' n'=>cases m;exact @RD.i g F w k n
  |x k' e U V=>
   cases m;exact @RD.x g F w k e U V C.1 C.2
  |_=>first|(cases p;done)|(cases m;done)
 |x k e U V S W=>
  intro d m C p;cases d<;>first|(cases p;done)|(cases m;done)
 |b x=>
  intro d m C p;cases d with
  |b x'=>cases m;exact @RD.b g F w x
  |_=>first|(cases p;done)|(cases m;done)
 |s x b h=>
  intro d m C p;cases d with
  |s x'=>
   cases m;refine @RD.s g F w x b (@SR.mk g x b.data.toList (@SR.len T x b.data.toList h) (fun i y u S W=>?_));have hy:=List.all_eq_true.1 (show(x.all fun b=>match b with|.c _=>true|.x _ _ _=>false)=true from p) y (List.mem_of_getElem? S);cases y with
   |c n=>exact @SR.at_ T x b.data.toList h i (.c n) u S W
   |x e U V=>cases hy
  |_=>first|(cases p;done)|(cases m;done)
 |z=>
  intro d m C p;cases d with
  |z=>exact @RD.z g F w
  |_=>first|(cases p;done)|(cases m;done)
 |np=>
  intro d m C p;cases d with
  |np=>exact @RD.np g F w
  |_=>first|(cases p;done)|(cases m;done)
 |nf=>
  intro d m C p;cases d with
  |nf=>exact @RD.nf g F w
  |_=>first|(cases p;done)|(cases m;done)
 |nm=>
  intro d m C p;cases d with
  |nm=>exact @RD.nm g F w
  |_=>first|(cases p;done)|(cases m;done)
 |o i v h _=>
  intro d m C p;cases d<;>first|(cases p;done)|(cases m;done)
 |lz sz=>
  intro d m C p;cases d with
  |l B A=>
   have E:D.l B (@jv g A)=.l sz []:=m;injection E with P K;cases A with
   |nil=>subst P;exact @RD.lz g F w B
   |cons r rs=>cases K
  |_=>first|(cases p;done)|(cases m;done)
 |l sz A b L cap c t X Y Q Z R hn hr h ih=>
  intro d m C p;cases d with
  |l B a=>
   have E:D.l B (@jv g a)=.l sz A:=m;injection E with P K;subst P;rw[@ow g a]at K;subst K;have G:(a.map (·.map (@pD g))).length=a.length:=List.length_map _;rw[G]at Q hn|-;have H:=mM (show jA a=true from p);have I:= @wb g _ (show @pE g a from C);refine @RD.l g F w B a b L cap c t X Y Q Z R hn (fun r M=>by
    have:=hr (r.map (@pD g)) (List.mem_map_of_mem M);rwa[aj]at this) (fun i r j J u N O a3=>?_)
   refine ih i (r.map (@pD g)) j (@pD g J) u (by rw[ai,N];rfl) (by rw[ai,O];rfl) a3 J rfl ?_ ?_
   .exact @uQ g _ (I r (List.mem_of_getElem? N)) J (List.mem_of_getElem? O)
   .exact jW (H r (List.mem_of_getElem? N)) J (List.mem_of_getElem? O)
  |_=>first|(cases p;done)|(cases m;done)
 |q sz A i j b L c t X Y Q Z hr h ih=>
  intro d m C p;cases d with
  |q B a i' j'=>
   have E:D.q B (@jv g a) i' j'=.q sz A i j:=m;injection E with P K q3 q4;subst P q3 q4;rw[@ow g a]at K;subst K;have G:(a.map (·.map (@pD g))).length=a.length:=List.length_map _;rw[G]at Q;have H:=mM (show jA a=true from p);have I:= @wb g _ (show @pE g a from C);refine @RD.q g F w B a i' j' b L c t X Y Q Z (fun r M=>by
    have:=hr (r.map (@pD g)) (List.mem_map_of_mem M);rwa[aj]at this) (fun i r j J u N O a3=>?_)
   refine ih i (r.map (@pD g)) j (@pD g J) u (by rw[ai,N];rfl) (by rw[ai,O];rfl) a3 J rfl ?_ ?_
   .exact @uQ g _ (I r (List.mem_of_getElem? N)) J (List.mem_of_getElem? O)
   .exact jW (H r (List.mem_of_getElem? N)) J (List.mem_of_getElem? O)
  |_=>first|(cases p;done)|(cases m;done)
 |f fn first am vs us S W g1 g2=>
  intro d m C p;cases d<;>first|(cases p;done)|(cases m;done)
open Go.Proofs.YtkkiefcapbddkaaGreatDoor Mem ep
def Pv(b:ByteArray):List Sb:=b.data.toList.map fun u=>.c u.toNat
mutual
def mO:Bt->List D
 |.mk kind node c b text a=>iN kind::iN node::iN c::(b++[.s (Pv text),match a with|[]=>.z|k::r=>.l 57 (mO k::ng r)])
def ng:List Bt->List (List D)
 |[]=>[]
 |k::r=>mO k::ng r
end
def Aj:∀l:List Bt,ng l=l.map mO
 |[]=>rfl
 |k::r=>by unfold ng;rw[Aj r];rfl
def bsz(w:World)(b:Nat):Nat:=match w.heap[b]? with|some (.cells c _ _)=>c.size|_=>0
def ey.get{R:Nat->Nat->Bc->Bt->Prop}:∀{lo j:Nat} {A:List Bc} {B:List Bt},ey R lo j A B->∀{i:Nat} {x:Bt},B[i]? =some x->∃a m q,lo<=a/\m<=j/\A[i]? =some q/\R a m q x
 |lo,j,[],[],h,i,x,C=>by simp at C
 |lo,j,q::A,y::B,h,0,x,C=>by
  cases C;obtain⟨a,m,E,I,J,H,D⟩:=h;exact⟨a,m,q,E,Nat.le_trans D.le (Nat.le_refl _),rfl,H⟩
 |lo,j,q::A,y::B,h,i+1,x,C=>by
  obtain⟨a,m,E,I,J,H,D⟩:=h;obtain⟨L,M,N,S,O,P,Q⟩:=D.get (i:=i) (by simpa using C);exact⟨L,M,N,by omega,O,by simpa using P,Q⟩
 |lo,j,[],x::B,h,_,_,_=>h.elim
 |lo,j,q::A,[],h,_,_,_=>h.elim
def l8{t:Bt}(h:ik t.sty):(mO t).length=57:=by
 cases t with
 |mk a b c s x k=>
  have:s.length=52:=h.n;unfold mO;simp[this]
def ZA[de](b:ByteArray):SR (Pv b) b.data.toList:=by
 refine⟨by simp[Pv],fun i x u a c=>?_⟩;unfold Pv at a;rw[ai,c]at a;cases a;rfl
def XX[de]{w:World}{F:Nat->Nat}:∀{d I k:Nat} {q:Bc} {t:Bt},gM w true d I k q t->(∀b,I<=b->b<k->F b=bsz w b)->RA F w (mO t) q.cells
 |0,_,_,_,_,h,_=>h.elim
 |d+1,I,k,q,.mk kind node ix J text c,h,X=>by
  obtain⟨K,L,M,D,N,O,qs,m,E,hm,n,P,Q,o⟩:=h;have K:q.kind=kind:=K;have L:q.node=node:=L;have M:q.ix=ix:=M;have D:q.sty=J:=D;have N:q.text=text:=N;have R:=D▸O.sty;unfold mO Bc.cells;rw[K,L,M,D,N];refine RA.cons (.i _ _) (RA.cons (.i _ _) (RA.cons (.i _ _) (RA.app (nr R.p) (RA.cons (.s _ _ (ZA text)) (RA.cons ?_ (RA.nil F w))))));cases S:c with
  |nil=>
   rw[o S];exact .z
  |cons u T=>
   have am:=E.le;have e:=E.len;rcases n.2 with⟨U,h0⟩|⟨g,cap,y,U,h1,Y,Z,h4,h5,h6⟩
   .rw[h0]at e;have e:0=c.length:=e;rw[S]at e;cases e
   .have hg:=P g (by rw[U];rfl);have A:F g=y.size:=by rw[X g (by omega) hg];unfold bsz;rw[Y]
    have V:mO u::ng T=c.map mO:=by rw[S,Aj];rfl
    have f:(mO u::ng T).length=qs.length:=by rw[V,List.length_map];exact e.symm
    rw[U];have:=RD.l (F:=F) (w:=w) 57 (mO u::ng T) g 0 cap y 66 (0,0) Y (by rw[f,A,h5];have:=aC 57 Z;omega) (by rw[A];omega) (by rw[h5];omega) (by rw[f];exact Z)
     (
      fun r hr=>by
      rw[V]at hr;obtain⟨x,hx,rfl⟩:=List.mem_map.1 hr;obtain⟨i,k⟩:=List.getElem?_of_mem hx;obtain⟨a,m',q',u,k1,k2,G⟩:=E.get k;exact l8 (G.sty▸G.ok.sty))
     (
      fun i r j dd v B a2 a3=>by
      rw[V,List.getElem?_map]at B;cases k:c[i]? with
      |none=>rw[k]at B;cases B
      |some x=>
       rw[k]at B;cases B;obtain⟨a,m',q',u,k1,k2,G⟩:=E.get k;have C:=XX G (fun b b1 b2=>X b (by omega) (by omega));have hj:j<q'.cells.length:=by rw[C.len];exact(aa.1 a2).1
       have H:=sI Q k2 (List.getElem?_eq_getElem hj);rw[<-h6]at H;have W:=(List.getElem?_eq_some_iff.1 H).1;rw[aN]at W;rw[bU (by omega)]at H;rw[bc,<-az,H]at a3;cases a3;exact C.at_ j dd _ a2 (List.getElem?_eq_getElem hj))
    rw[f]at this;exact this
def WO:ij (gR []) 40 215 [.a (kZ 1)] (.d (.b false))=true:=by decide+kernel
def WQ:ij (gR []) 40 215 [.a (kZ 2)] (.d (.b false))=true:=by decide+kernel
def WR:ij (gR []) 40 215 [.a (kZ 3)] (.d (.b false))=true:=by decide+kernel
def WT:ij (gR []) 40 215 [.a (kZ 4)] (.d (.b false))=true:=by decide+kernel
def WU:ij (gR []) 40 215 [.a (kZ 5)] (.d (.b false))=true:=by decide+kernel
def WV:ij (gR []) 40 215 [.a (kZ 6)] (.d (.b false))=true:=by decide+kernel
def WW:ij (gR []) 40 215 [.a (kZ 7)] (.d (.b false))=true:=by decide+kernel
def WX:ij (gR []) 40 215 [.a (kZ 8)] (.d (.b false))=true:=by decide+kernel
def WY:ij (gR []) 40 215 [.a (kZ 9)] (.d (.b false))=true:=by decide+kernel
