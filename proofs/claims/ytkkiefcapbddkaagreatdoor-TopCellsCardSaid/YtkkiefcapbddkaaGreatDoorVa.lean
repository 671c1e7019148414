/- part of topCells.proved -/
import Derived.Test.YtkkiefcapbddkaaGreatDoorTa
import Derived.Test.YtkkiefcapbddkaaGreatDoorVb
set_option linter.all false
set_option maxRecDepth 1000000
set_option maxHeartbeats 0
noncomputable section
namespace Go.Abs
open Go.RowKit Go.Proofs YtkkiefcapbddkaaGreatDoor Mem ep
variable{d:D}{s:List D}{n:Nat}{F:Nat->Nat}{v:Value}{w:World}
section
def Ib(s:ByteArray):List Sb:=s.data.toList.map fun u=>.c u.toNat
def x5(x:Nd):List D:=[iN x.kind,.s (Ib x.name),.s (Ib x.text),.z,iN x.par,iN x.fst,iN x.lst,iN x.prv,iN x.nxt]
def KP(s:ByteArray):(Ib s).all MP=true:=by
 unfold Ib;rw[List.all_map,aQ];intro u _;have:=u.toNat_lt;simpa[MP,Function.comp]using this
def Y6(s:ByteArray):dV (.s (Ib s))=s:=by
 show Value.string ⟨((Ib s).map VF).toArray⟩=_
 congr 1
 have:(Ib s).map VF=s.data.toList:=by
  unfold Ib;rw[fj]
  conv=>rhs;rw[<-List.map_id s.data.toList]
  refine fa fun u _=>?_;simp[VF,Function.comp]
 rw[this]
def MY(x:Nd):(x5 x).all dP=true:=by
 simp[x5,dP,iN,KP]
def Si(x:Nd):(x5 x).map dV=x.cells:=by
 simp only[x5,bV,wP,Y6];rfl
variable[de]
def PC.Sj{P:Program}{f:FuncId}{args:List V}{r:D}(S:V.nk 0 args=true)
 (
  H:∀(F:Nat->Nat) (w:World) (N:List Value),(∀b,w.heap.size<=b->F b=0)->GL (gF F) (fun _=>none) w args N->
  Calls P f N.toArray w fun e E=>∃v,e=.returned v/\Below w w E/\∃B:Nat->Nat,(∀b,b<w.heap.size->B b=F b)/\(∀b,E.heap.size<=b->B b=0)/\RD B E r v):
 PC P f args (.d r):=by
 refine⟨S,rfl,?_⟩;intro g w N I W X;refine(H g.F w N I.fresh (GL.free (g:=g) (g1:=gF g.F) rfl X S)).mono fun e E ⟨v,Y,C,B,f1,f2,Z⟩=>?_;have J:jt g.F w B E:=by
  refine⟨fun b=>?_,fun b c t fz T=>?_⟩
  .rcases cD b w with j|O
   .rw[f1 b j];exact ae _
   .rw[I.fresh b O];exact aM _
  .have j:b<w.heap.size:=(Array.getElem?_eq_some_iff.1 T).1;exact⟨c,t,fz,(C.block b j).trans T,rfl,by rw[f1 b j];exact fP _ _,fun _ _=>rfl⟩
 have Q:∀k b,dJ {σ:=g.σ,τ:=g.τ,F:=B,U:=g.U} (fun _=>none) k=some b->False:=fun k b A=>by simp[dJ]at A
 refine⟨v,.d r,fun _=>none,0,{g with F:=B},Y,rfl,.d _ _ Z,⟨fun k sz L A=>(I.lO k sz L A).stay J,fun k k' b h1 _=>(Q k b h1).elim,fun b M=>?_,f2,fun k A=>⟨rfl,(I.top k A).2⟩,fun k o M=>by cases M⟩,fun k A=>W k A,?_⟩
 .have j:=I.lt b M;exact bX j C.size
 .exact{
   n:=fun k A=>A
   size:=C.size
   os:=C.os
   tape:=C.tape
   output:=C.output
   stays:=J
   out:=fun b j _=>⟨C.block b j,f1 b j⟩
   own:=fun b M=>.inl M
   sig:=fun _ _=>rfl
   tok:=fun k _ n' R=>by cases R}
def uD{a:World}{r:D}(d:dP r=true)(e:∀b,w.heap.size<=b->F b=0)(f:Below w w a):∃c:Nat->Nat,(∀b,b<w.heap.size->c b=F b)/\(∀b,a.heap.size<=b->c b=0)/\RD c a r (dV r):=
 ⟨F,fun _ _=>rfl,fun b g=>e b (Nat.le_trans f.size g),Cf d⟩
def qM{L:List Nd}(d:L≠[])(h:RD F w (.l 9 (L.map x5)) v):∃A c,v=.slice A L.length c/\dU w w A 9 Nd.cells L:=by
 obtain⟨b,a,cap,rfl,-,e,-,f⟩:=eV h (by simpa using d);refine⟨(b,a),cap,by rw[aj],fun _=>⟨b,a,rfl,e,fun i x g j u k=>?_⟩⟩;obtain⟨o,m,n⟩:=f i (x5 x) (by rw[ai,g];rfl);have:=ku (MY x) n;rw[Si]at this;subst this;exact m j u k
def bN(l:List Nat):ByteArray:=⟨(l.map UInt8.ofNat).toArray⟩
structure KQ(L:List Nd)(n:Nat):Prop where
 hd:de.d 0=.l 9 (L.map x5)
 hv:de.v 1=n
def Sk{L:List Nd}(e:KQ L n)(f:L≠[])(h:GV (gF F) (fun _=>none) w tV v):∃A c,v=.agg #[.slice A L.length c]/\dU w w A 9 Nd.cells L:=by
 obtain⟨g,rfl,b⟩:=GV.ra h
 match g,b with
 |[a],b=>
  have d:=b.at_ 0 _ _ rfl rfl;cases d with
  |o _ _ d=>
   rw[e.hd]at d;obtain⟨A,c,rfl,hR⟩:=qM f d;exact⟨A,c,rfl,hR⟩
 |[],b=>have:=b.len;simp at this
 |_::_::_,b=>have:=b.len;simp at this
def Sl{L:List Nd}(a:KQ L n)(h:GV (gF F) (fun _=>none) w nV v):v=n:=by
 have b:=h.cG;cases b with
 |x _ _ _ _ _ _=>show Value.int .i64 (de.v 1)=_;rw[a.hv]
def Y7{L:List Nd}(g:KQ L n){x:Nd}(f:L[n]? =some x)(i:x.kind=1)(j:L.length<=4000):PC tp 185 [tV,nV] (.d .z):=by
 have k:L≠[]:=fun e=>by rw[e]at f;simp at f
 refine PC.Sj rfl fun F w s l m=>?_;obtain⟨a,b,rfl,o,p⟩:=m.two;obtain⟨A,c,rfl,hR⟩:=Sk g k o;have:=Sl g p;subst this;exact(Sh L A c w hR f i j).mono fun e t ⟨q,h⟩=>⟨_,q,h,uD (r:=.z) rfl l h⟩
def GL.tri{g:Gh}{h:bw}{x y z:V}{A:List Value}(j:GL g h w [x,y,z] A):∃a b c,A=[a,b,c]/\GV g h w x a/\GV g h w y b/\GV g h w z c:=by
 match A,j with
 |[a,b,c],j=>exact⟨a,b,c,rfl,j.at_ 0 _ _ rfl rfl,j.at_ 1 _ _ rfl rfl,j.at_ 2 _ _ rfl rfl⟩
 |[],j=>have:=j.len;simp at this
 |[_],j=>have:=j.len;simp at this
 |[_,_],j=>have:=j.len;simp at this
 |_::_::_::_::_,j=>have:=j.len;simp at this
def sN(s:List Nat):ByteArray:=⟨((XP s).map VF).toArray⟩
def Sm{L:List Nd}(p:KQ L n){x:Nd}(i:L[n]? =some x)(t:x.kind=1)(u:L.length<=4000){s j:List Nat}(v:(XP s).all MP=true)(k:((sN s).toList==[])=false)(hq:((sN s).toList==x.name.toList)=YQ s j):
 PC tp 264 [tV,nV,.a [.l 3 [[iN 0,.s (XP s),.z]]]] (.d (.b (YQ s j))):=by
 have y:L≠[]:=fun e=>by rw[e]at i;simp at i
 refine PC.Sj rfl fun F w O B C=>?_;obtain⟨a,b,d,rfl,E,G,H⟩:=C.tri;obtain⟨A,c,rfl,hR⟩:=Sk p y E;have:=Sl p G;subst this;obtain⟨I,rfl,f⟩:=GV.ra H
 match I,f with
 |[a],f=>
  have m:=f.at_ 0 _ _ rfl rfl;obtain⟨J,K,P,rfl,-,M,-,g⟩:=eV m (by simp);obtain⟨Q,h,N⟩:=g 0 _ rfl;have o:[iN 0,.s (XP s),D.z].all dP=true:=by simp[dP,iN,v]
  have:=ku o N;subst this;rw[ez,dI]at h;have h:w.rangeAt J K [zQ,(sN s),zn]:=h;exact(KO L A c w hR i t u (cb:=zQ) rfl k hq M h).mono fun e R ⟨m,q⟩=>⟨_,m,q,uD (r:=.b (YQ s j)) rfl B q⟩
 |[],f=>have:=f.len;simp at this
 |_::_::_,f=>have:=f.len;simp at this
def uE(a:List Nat):Prop:=∀s∈RM,(XP s).all MP=true/\((sN s).toList==[])=false/\((sN s).toList==(bN a).toList)=YQ s a
def Sn(g:List Nat->FuncId×(List V->Option V)):∀l:List (List Nat),(List.rec [] (fun s _ ih=>g s::ih) l:List (FuncId×(List V->Option V)))=l.map g
 |[]=>rfl
 |s::l=>by
  show g s::(List.rec [] (fun s _ ih=>g s::ih) l:List _)=g s::l.map g;rw[Sn g l]
def uF{L:List Nd}(f:KQ L n){x:Nd}(g:L[n]? =some x)(i:x.kind=1)(j:L.length<=4000){c:List Nat}(e:x.name=bN c)(k:uE c):∀p∈Hl c,kS tp p.1 p.2:=by
 intro p m;rcases aJ.1 (show p∈(List.rec [] (fun s _ ih=>(264,pO [tV,nV,.a [.l 3 [[iN 0,.s (XP s),.z]]]] (.d (.b (YQ s c))))::ih) RM:List (FuncId×(List V->Option V)))++[(185,pO [tV,nV] (.d .z))]from m)with h|h
 .rw[Sn (fun s=>(264,pO [tV,nV,.a [.l 3 [[iN 0,.s (XP s),.z]]]] (.d (.b (YQ s c)))))]at h;obtain⟨s,o,rfl⟩:=List.mem_map.1 h;obtain⟨q,r,t⟩:=k s o;exact .one ⟨fun args w=>rfl,Sm f g i j q r (by rw[e];exact t)⟩
 .rcases aw.1 h with rfl|h
  .exact .one ⟨fun args w=>rfl,Y7 f g i j⟩
  .cases h
def So:uE Hm:=by unfold uE;decide+kernel
def Wa:uE Vs:=by unfold uE;decide+kernel
def Y8:uE nTr:=by unfold uE;decide+kernel
def Y9:uE nTd:=by unfold uE;decide+kernel
inductive jc|root|tab|tr|td
def jc.nm:jc->List Nat|.root=>Hm|.tab=>Vs|.tr=>nTr|.td=>nTd
def jc.iU:jc->List (List D)|.root=>[Hn 1]|.tab=>[Hn 4]|.tr=>[Hn 5]|.td=>[Hn 6,mBg]
def Wb(b:de.G=gS){L:List Nd}(c:KQ L n){x:Nd}(e:L[n]? =some x)(f:x.kind=1)(g:L.length<=4000)(k:jc)(a:x.name=bN k.nm):PC tp 117 [tV,nV,.d qG] (.d (.l 6 k.iU)):=by
 cases k with
 |root=>exact(jy (uF c e f g a So) b OG).2
 |tab=>exact(jy (uF c e f g a Wa) b RN).2
 |tr=>exact(jy (uF c e f g a Y8) b Vt).2
 |td=>exact(jy (uF c e f g a Y9) b Vu).2
end
section
def Ic{b:List (List D)}{sz:Nat}(e:∀r∈b,r.length=sz){i:Nat}{r:List D}{j:Nat}(c:b[i]? =some r)(f:r[j]? =some d):b.flatten[i*sz+j]? =some d:=by
 induction b generalizing i with
 |nil=>simp at c
 |cons a b ih=>
  have g:=e a (by simp);cases i with
  |zero=>
   have:a=r:=by simpa using c
   subst this;rw[ka,ez,bc,an (aa.1 f).1];exact f
  |succ i=>
   rw[ka,ay (by rw[g,Nat.add_mul];omega),g];rw[show(i+1)*sz+j-sz=i*sz+j by rw[bp];omega];exact ih (fun r h=>e r (by simp[h])) (by simpa using c)
variable[de]
def Kept.grown{j:World}(B:Gk F w)(C:w.grownBy j v.ownBlock)(h:∀g,v.ownBlock=some g->F g=0):Kept F w F j:=fun b A=>⟨rfl,C.block b (B.lt A) (fun e=>by rw[h b e.symm]at A;omega)⟩
def Kept.alloc{F:Nat->Nat}{w:World}(j:Gk F w)(o:Obj):Kept F w F (w.alloc o):=fun b A=>⟨rfl,aG _ _ (j.lt A)⟩
def Gk.alloc{F:Nat->Nat}{w:World}(j:Gk F w)(o:Obj):Gk F (w.alloc o):=j.kept (Kept.alloc j o) (by simp)
def Gk.drew{F:Nat->Nat}{w:World}(j:Gk F w):Gk F w.drew:=⟨j.three,j.fit,j.sp,j.fresh⟩
def Kept.drew(F:Nat->Nat)(w:World):Kept F w F w.drew:=fun b j=>⟨rfl,rfl⟩
def Kept.dA{j:World}{g:Nat}(A:fp g w j)(h:F g=0):Kept F w F j:=fun b B=>⟨rfl,A.other b (fun e=>by rw[e,h]at B;omega)⟩
def Gk.dA{F:Nat->Nat}{w j:World}{g:Nat}(B:Gk F w)(A:fp g w j)(h:F g=0):Gk F j:=B.kept (Kept.dA A h) (by rw[A.size];exact ae _)
def Gk.grown{F:Nat->Nat}{w j:World}{v:Value}(A:Gk F w)(B:w.grownBy j v.ownBlock)(h:∀g,v.ownBlock=some g->F g=0):Gk F j:=A.kept (Kept.grown A B h) B.size
def iJ{c:Value}(d:Gk F w)(e:jq w v c)(h:∀g,v.ownBlock=some g->F g=0):∀g,c.ownBlock=some g->F g=0:=fun g a=>by
 rcases e with b|⟨i,b,f⟩
 .exact h g (b▸a)
 .rw[b]at a;cases a;exact d.fresh _ f
def RA.row{A sz g cap:Nat}{e:TypeId}{H:List Value}{rows:List (List D)}(I:w.ownsRow A e sz (g,n,cap) n H)(J:F g=0)(L:rows.length=n)(B:∀r∈rows,r.length=sz)(M:RA F w rows.flatten H)(N:∀r∈rows,∀d∈r,ln d):
 RD (up F g (n*sz)) w (.l sz rows) (g,n,cap)/\Kept F w (up F g (n*sz)) w:=
 RD.qI I J L B (fun i r j d u C E O=>M.at_ _ d u (Ic B C E) O) (fun i r j d C E=>N r (List.mem_of_getElem? C) d (List.mem_of_getElem? E))
def Gk.up{F:Nat->Nat}{w:World}{g m:Nat}(j:Gk F w)(A:F g=0)(B:g<w.heap.size):Gk (up F g m) w:=
 ⟨by rw[bI _ _ _ (fun e=>by have:=j.three;rw[e,A]at this;omega)];exact j.three,by rw[bI _ _ _ (fun e=>by have:=j.three;rw[e,A]at this;omega)];exact j.fit,j.sp,fun b C=>by rw[bI _ _ _ (by omega)];exact j.fresh b C⟩
def RA.take{F:Nat->Nat}{w:World}{j:List D}{A:List Value}(h:RA F w j A)(n:Nat):RA F w (j.take n) (A.take n):=
 ⟨by simp[h.len],fun i d v a b=>by
  rw[br]at a b;split at a
  .rw[aS (by assumption)]at b;exact h.at_ i d v a b
  .cases a⟩
end
inductive Bv:D->Prop
 |i (k n):Bv (.i k n)
 |b (x):Bv (.b x)
 |s (x) (h:x.all MP=true):Bv (.s x)
 |z:Bv .z
 |np:Bv .np
 |nf:Bv .nf
 |nm:Bv .nm
 |l (sz rows) (h0:rows≠[]) (h1:0<sz) (h:∀(i:Nat) r (j:Nat) d,rows[i]? =some r->r[j]? =some d->Bv d):Bv (.l sz rows)
mutual
def sm:D->Bool
 |.i .. =>true
 |.b _=>true
 |.s x=>x.all MP
 |.z=>true
 |.np=>true
 |.nf=>true
 |.nm=>true
 |.l sz a=>Nat.blt 0 sz&&(!a.isEmpty&&EP a)
 |_=>false
def Ie:List D->Bool
 |[]=>true
 |d::l=>sm d&&Ie l
def EP:List (List D)->Bool
 |[]=>true
 |r::l=>Ie r&&EP l
end
def oa:∀{l:List D},Ie l=true->∀d∈l,sm d=true
 |[],_,d,hd=>by cases hd
 |x::l,h,d,hd=>by
  unfold Ie at h;simp only[ax]at h;rcases aw.1 hd with rfl|hd
  .exact h.1
  .exact oa h.2 d hd
def tq:∀{l:List (List D)},EP l=true->∀r∈l,Ie r=true
 |[],_,d,hd=>by cases hd
 |x::l,h,d,hd=>by
  unfold EP at h;simp only[ax]at h;rcases aw.1 hd with rfl|hd
  .exact h.1
  .exact tq h.2 d hd
def sizeOf_get{r:List D}{a:List (List D)}(b:r∈a)(c:d∈r):SizeOf.sizeOf d<SizeOf.sizeOf a:=Nat.lt_trans (aak c) (List.sizeOf_lt_of_mem b)
def iV:∀{d:D},sm d=true->Bv d
 |.i k n,_=>.i k n
 |.b x,_=>.b x
 |.s x,h=>.s x (by unfold sm at h;exact h)
 |.z,_=>.z
 |.np,_=>.np
 |.nf,_=>.nf
 |.nm,_=>.nm
 |.l sz a,h=>by
  unfold sm at h;simp only[ax]at h;refine .l sz a (fun e=>by rw[e]at h;simp at h) (by simpa using h.1) fun i r j d m p=>?_;have c:=List.mem_of_getElem? m;have g:=List.mem_of_getElem? p;have:=sizeOf_get c g;exact iV (oa (tq h.2.2 r c) d g)
 |.x ..,h=>by simp[sm]at h
 |.o ..,h=>by simp[sm]at h
 |.q ..,h=>by simp[sm]at h
 |.f ..,h=>by simp[sm]at h
termination_by d=>SizeOf.sizeOf d
decreasing_by simp;omega
def Bv.ok[de](h:Bv d):ln d:=by
 induction h with
 |i k n=>exact .i k n
 |b x=>exact .b x
 |s x h=>exact .s x
 |z=>exact .z
 |np=>exact .np
 |nf=>exact .nf
 |nm=>exact .nm
 |l sz j A B h ih=>exact .l sz j A B ih
def RD.other{H V2:de}(h: @RD H F w d v)(A:Bv d): @RD V2 F w d v:=by
 induction h with
 |i k n=>exact @RD.i V2 F w k n
 |b x=>exact @RD.b V2 F w x
 |s x b h=>
  cases A with
  |s _ M=>
   refine @RD.s V2 F w x b (@SR.mk V2 _ _ (@SR.len H _ _ h) fun i y u B E=>?_);obtain⟨n,rfl,L⟩:=MQ (aQ.1 M y (List.mem_of_getElem? B));exact @SR.at_ H _ _ h i _ u B E
 |z=>exact @RD.z V2 F w
 |np=>exact @RD.np V2 F w
 |nf=>exact @RD.nf V2 F w
 |nm=>exact @RD.nm V2 F w
 |lz sz=>exact @RD.lz V2 F w sz
 |l sz C b I cap c t N O P J Q L R h ih=>
  cases A with
  |l _ _ V W S=>exact @RD.l V2 F w sz C b I cap c t N O P J Q L R fun i r j d v B E T=>ih i r j d v B E T (S i r j d B E)
 |x=>cases A
 |o=>cases A
 |q=>cases A
 |f=>cases A
@[reducible] noncomputable def dZ:de:=⟨fun _=>0,fun _ _ _=>0,fun _=>.z,gS⟩
@[reducible] noncomputable def Za (L:List Nd) (n:Nat):de:=⟨fun _=>n,fun _ _ _=>0,fun _=>.l 9 (L.map x5),gS⟩
def Zb(x:Nd):∀d∈x5 x,Bv d:=by
 intro d a;simp only[x5,aw,bB,eA]at a;rcases a with rfl|rfl|rfl|rfl|rfl|rfl|rfl|rfl|rfl
 .exact .i _ _
 .exact .s _ (KP _)
 .exact .s _ (KP _)
 .exact .z
 all_goals exact .i _ _
def gL{L:List Nd}(a:L≠[]):Bv (.l 9 (L.map x5)):=by
 refine .l _ _ (by simpa using a) (by decide) fun i r j d b c=>?_;obtain⟨x,_,rfl⟩:=List.mem_map.1 (ag b);exact Zb x d (List.mem_of_getElem? c)
def If:Bv qG:=iV (by decide+kernel)
def oZ(k:jc):Bv (.l 6 k.iU):=by cases k<;>exact iV (by decide+kernel)
def zR{L:List Nd}{x:Nd}(f:L[n]? =some x)(m:x.kind=1)(p:L.length<=4000)(k:jc)(h:x.name=bN k.nm)(q:Gk F w){A:Option Addr}{c:Nat}(r: @RD dZ F w (.l 9 (L.map x5)) (.slice A L.length c)){rv:Value}(s: @RD dZ F w qG rv):
 Calls tp 117 #[.agg #[.slice A L.length c],n,rv] w fun e g=>∃v a,e=.returned v/\ @RD dZ a g (.l 6 k.iU) v/\Below w w g/\Gk a g/\(∀b,b<w.heap.size->a b=F b):=by
 have t:L≠[]:=fun e=>by rw[e]at f;simp at f
 have J:=(List.getElem?_eq_some_iff.1 f).1
 letI:=Za L n
 have u:KQ L n:=⟨rfl,rfl⟩;have y:=Wb (show de.G=gS from rfl) u f m p k h;have i:=r.other (V2:=Za L n) (gL t);have j:=s.other (V2:=Za L n) If;have z:GV (gF F) (fun _=>none) w tV (.agg #[.slice A L.length c]):=(RA.cons (.o _ _ i) (RA.nil F w)).gv;have B:GV (gF F) (fun _=>none) w nV n:=.d _ _ (RD.x (F:=F) (w:=w) .i64 (.v 1) 0 4000 (show(0:Int)<=(n:Int) by omega) (show(n:Int)<=4000 by omega));refine(y.mH rfl q (GL.cons z (GL.cons B (GL.cons (.d _ _ j) GL.nil)))).mono fun e g ⟨v,a,C,D,E,H,I⟩=>⟨v,a,C,D.cG.other (oZ k),E,H,I⟩
section
attribute[local instance] dZ
def me:List (List D):=rowsOf eE
def kV:List (List D):=[[iN 0,jS eE 0,Bn rd0],[iN 0,jS eE 1,Bn rd1],[iN 0,jS eE 2,Bn rd2],[iN 0,jS eE 3,Bn rd3],[iN 0,jS eE 4,Bn rd4],[iN 0,jS eE 5,Bn rd5],[iN 0,jS eE 6,Bn rd6],[iN 0,jS eE 7,Bn rd7],[iN 0,jS eE 8,Bn rd8]]
def o0:List (List D):=rowsOf Cb
def qN:List D:=[iN 1,jS Cb 0,Bn rax]
structure abG(k:Nat)(sel dec rd:D):Prop where
 at_:me[k]? =some [sel,dec]
 out:kV[k]? =some [iN 0,sel,rd]
 pc:PC tp 114 [.d dec] (.d rd)
 cs:sm sel=true
 cr:sm rd=true
 cd:sm dec=true
 ls:∃z r,sel=.l z r
 ld:∃z r,dec=.l z r
 lr:∃z r,rd=.l z r
def O5:∀k,k<9->∃a b c,abG k a b c
 |0,_=>⟨_,_,_,rfl,rfl,(jy bH rfl Vv).2,by decide+kernel,by decide+kernel,by decide+kernel,⟨_,_,rfl⟩,⟨_,_,rfl⟩,⟨_,_,rfl⟩⟩
 |1,_=>⟨_,_,_,rfl,rfl,(jy bH rfl Vw).2,by decide+kernel,by decide+kernel,by decide+kernel,⟨_,_,rfl⟩,⟨_,_,rfl⟩,⟨_,_,rfl⟩⟩
 |2,_=>⟨_,_,_,rfl,rfl,(jy bH rfl Vx).2,by decide+kernel,by decide+kernel,by decide+kernel,⟨_,_,rfl⟩,⟨_,_,rfl⟩,⟨_,_,rfl⟩⟩
 |3,_=>⟨_,_,_,rfl,rfl,(jy bH rfl Vy).2,by decide+kernel,by decide+kernel,by decide+kernel,⟨_,_,rfl⟩,⟨_,_,rfl⟩,⟨_,_,rfl⟩⟩
 |4,_=>⟨_,_,_,rfl,rfl,(jy bH rfl Vz).2,by decide+kernel,by decide+kernel,by decide+kernel,⟨_,_,rfl⟩,⟨_,_,rfl⟩,⟨_,_,rfl⟩⟩
 |5,_=>⟨_,_,_,rfl,rfl,(jy bH rfl VA).2,by decide+kernel,by decide+kernel,by decide+kernel,⟨_,_,rfl⟩,⟨_,_,rfl⟩,⟨_,_,rfl⟩⟩
 |6,_=>⟨_,_,_,rfl,rfl,(jy bH rfl VB).2,by decide+kernel,by decide+kernel,by decide+kernel,⟨_,_,rfl⟩,⟨_,_,rfl⟩,⟨_,_,rfl⟩⟩
 |7,_=>⟨_,_,_,rfl,rfl,(jy bH rfl VC).2,by decide+kernel,by decide+kernel,by decide+kernel,⟨_,_,rfl⟩,⟨_,_,rfl⟩,⟨_,_,rfl⟩⟩
 |8,_=>⟨_,_,_,rfl,rfl,(jy bH rfl VD).2,by decide+kernel,by decide+kernel,by decide+kernel,⟨_,_,rfl⟩,⟨_,_,rfl⟩,⟨_,_,rfl⟩⟩
 |n+9,h=>by omega
def Zc:PC tp 114 [.d (mE Cb 0)] (.d (Bn rax)):=(jy bH rfl VE).2
structure abH(sel dec rd:D):Prop where
 at_:o0[0]? =some [sel,dec]
 out:[iN 1,sel,rd]=qN
 pc:PC tp 114 [.d dec] (.d rd)
 cs:sm sel=true
 cr:sm rd=true
 cd:sm dec=true
 ls:∃z r,sel=.l z r
 ld:∃z r,dec=.l z r
 lr:∃z r,rd=.l z r
def O6:∃a b c,abH a b c:=⟨_,_,_,rfl,rfl,Zc,by decide+kernel,by decide+kernel,by decide+kernel,⟨_,_,rfl⟩,⟨_,_,rfl⟩,⟨_,_,rfl⟩⟩
def MZ:o0.length=1:=rfl
def CA:me.length=9:=rfl
def KR(w:World):Calls tp 113 #[] w fun e a=>e=.returned (bN jh)/\w=a:=by
 go_enter Tryz.func113,Tryz.ntmps113
 go_wp2_with fail
 go_ret
 exact⟨rfl,rfl⟩
def xd:Conv.runesFrom (bN jh) (bN jh).size 0 #[]=(jh.map fun c=>Value.int .i32 (Int.ofNat c)).toArray:=by kernel_rfl
end
section
attribute[local instance] dZ
def jc.sty:jc->List D|.root=>bh 1 0|.tab=>bh 4 0|.tr=>bh 5 0|.td=>bh 6 4278190335
def jc.st:jc->Nat->List D
 |_,0=>bh 0 0
 |.td,1=>bh 6 0
 |k,_=>k.sty
def jc.val:jc->Nat->List D
 |.root,_=>pP 1
 |.tab,_=>pP 4
 |.tr,_=>pP 5
 |.td,0=>pP 6
 |.td,_=>vBg
def jc.top:jc->Bool|.root=>true|_=>false
def Sp(k p:jc)(i:Nat)(b:i<k.iU.length):PC tp 118 [.a (k.st i),.a (bif k.top then bh 0 0 else p.sty),.a (k.val i)] (.a (k.st (i+1))):=by
 cases k with
 |root=>
  have:i=0:=by simp[jc.iU]at b;omega
  subst this;exact(jy bH rfl YR).2
 |tab=>
  have:i=0:=by simp[jc.iU]at b;omega
  subst this;cases p
  .exact(jy bH rfl Ep).2
  .exact(jy bH rfl Hp).2
  .exact(jy bH rfl Ks).2
  .exact(jy bH rfl Kv).2
 |tr=>
  have:i=0:=by simp[jc.iU]at b;omega
  subst this;cases p
  .exact(jy bH rfl Ho).2
  .exact(jy bH rfl Kr).2
  .exact(jy bH rfl OE).2
  .exact(jy bH rfl OF).2
 |td=>
  have:i=0\/i=1:=by simp[jc.iU]at b;omega
  rcases this with rfl|rfl
  .cases p
   .exact(jy bH rfl Er).2
   .exact(jy bH rfl Hq).2
   .exact(jy bH rfl Kt).2
   .exact(jy bH rfl Kw).2
  .cases p
   .exact(jy bH rfl Es).2
   .exact(jy bH rfl Hr).2
   .exact(jy bH rfl Ku).2
   .exact(jy bH rfl Ky).2
def Sq(p:jc):PC tp 115 [.a p.sty,.d (.b false)] (.a (bh 0 0)):=by
 cases p
 .exact(jy bH rfl RQ).2
 .exact(jy bH rfl RR).2
 .exact(jy bH rfl RS).2
 .exact(jy bH rfl RT).2
def O7:PC tp 115 [.a Bo,.d (.b true)] (.a (bh 0 0)):=(jy bH rfl Kz).2
def Wc:PC tp 116 [] (.a (bh 0 0)):=(jy bH rfl RP).2
def db(s:List D):Array Value:=(s.map dV).toArray
structure ik(s:List D):Prop where
 p:s.all dP=true
 n:s.length=52
def bu(a b:Int):ik (bh a b):=⟨rfl,rfl⟩
def o5:ik Bo:=⟨rfl,rfl⟩
def jc.is(k:jc):ik k.sty:=by cases k<;>exact bu _ _
def jc.M0(k:jc)(i:Nat):ik (k.st i):=by
 unfold jc.st;split
 .exact bu _ _
 .exact bu _ _
 .exact jc.is _
def ik.size{s:List D}(h:ik s):(db s).size=52:=by unfold db;simp[h.n]
def ik.one{s:List D}(h:ik s):(db s).all (·.oneCell')=true:=by
 rw[jD];intro x j;have:=(nr (F:=fun _=>0) (w:=default) h.p).one x (by unfold db at j;simpa using j);exact this
def ik.gv{s:List D}(h:ik s)(F:Nat->Nat)(w:World):GV (gF F) (fun _=>none) w (.a s) (.agg (db s)):=(nr h.p).gv
def ik.inv(h:ik s)(j:GV (gF F) (fun _=>none) w (.a s) v):v=.agg (db s):=by
 obtain⟨B,rfl,A⟩:=GV.ra j;rw[ku h.p A];rfl
def dG(h:ik s):(Tryz.prog.info? 63).map (·.size)=some (db s).size:=by rw[h.size];kernel_rfl
def uG(k:jc):k.iU≠[]:=by cases k<;>simp[jc.iU]
def Ig(k:jc):k.iU.length<=2:=by cases k<;>simp[jc.iU]
def Ih(k:jc){i:Nat}(e:i<k.iU.length):∃a b c d:Int,k.iU[i]? =some [iN a,iN b,iN c,iN d,.b false,.l 7 [k.val i]]:=by
 cases k with
 |root=>
  have:i=0:=by simp[jc.iU]at e;omega
  subst this;exact⟨_,_,_,_,rfl⟩
 |tab=>
  have:i=0:=by simp[jc.iU]at e;omega
  subst this;exact⟨_,_,_,_,rfl⟩
 |tr=>
  have:i=0:=by simp[jc.iU]at e;omega
  subst this;exact⟨_,_,_,_,rfl⟩
 |td=>
  have:i=0\/i=1:=by simp[jc.iU]at e;omega
  rcases this with rfl|rfl
  .exact⟨_,_,_,_,rfl⟩
  .exact⟨_,_,_,_,rfl⟩
def Ii(k:jc):k.st k.iU.length=k.sty:=by cases k<;>rfl
def iK{P:Program}{c:Array Oper}{b:List Oper}{op:Oper}{a:Act}{Q:Exit->Act->World->Prop}(e:Region.wanted op (yielded c a.tmps)=true)(v:Value)(d:World)
 (h:(execOp a.eval op).run P w=.ok (.value v) d)(f:wpList P c Q b (a.put op.dst v) d):wpList P c Q (op::b) a w:=
 BigFrame.wpList_want e fun _ g=>by
  unfold Oper.wp;rw[h];exact g _ _ (by simpa using f)
end
section
attribute[local instance] dZ
def uK(s:List D):Array Value:=(s.map dV).toArray
structure xf(s:List D):Prop where
 p:s.all dP=true
 n:s.length=7
def jc.M8(k:jc)(i:Nat):xf (k.val i):=by
 unfold jc.val;split<;>exact⟨rfl,rfl⟩
def xf.size{s:List D}(h:xf s):(uK s).size=7:=by unfold uK;simp[h.n]
def xf.one{s:List D}(h:xf s):(uK s).all (·.oneCell')=true:=by
 rw[jD];intro x j;have:=(nr (F:=fun _=>0) (w:=default) h.p).one x (by unfold uK at j;simpa using j);exact this
def xf.gv{s:List D}(h:xf s)(F:Nat->Nat)(w:World):GV (gF F) (fun _=>none) w (.a s) (.agg (uK s)):=(nr h.p).gv
def od(h:xf s):(Tryz.prog.info? 232).map (·.size)=some (uK s).size:=by rw[h.size];kernel_rfl
