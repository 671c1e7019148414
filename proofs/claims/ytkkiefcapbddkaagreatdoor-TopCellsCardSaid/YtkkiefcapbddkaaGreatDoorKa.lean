/- part of topCells.proved -/
import Derived.Test.YtkkiefcapbddkaaGreatDoorQa
import Derived.Test.YtkkiefcapbddkaaGreatDoorProg
set_option linter.all false
set_option maxRecDepth 1000000
set_option maxHeartbeats 0
noncomputable section
namespace Go.Proofs.YtkkiefcapbddkaaGreatDoor
open Go.RowKit
variable{l:List Int}{d:List Value}{a b c i n:Nat}{e:TypeId}{v:Value}
section
namespace Mem
def aE(w:World)(g:Nat)(t:TypeId)(cs:Array Value):Prop:=w.heap[g]? =some (.cells cs t (0,0))
def ints(l:List Int):Array Value:=(l.map (Value.int .i64)).toArray
def lV(w:World)(B:Nat)(A:Option Addr)(xs:List Value):Prop:=
 xs≠[]->∃b a,A=some ⟨b,a,none⟩/\b<B/\∀j,j<xs.length->w.cell? ⟨b,a+j,none⟩=xs[j]?
def eL(w w':World):Prop:=∃n,w.drewN n=w'
def eL.refl(w:World):eL w w:=⟨0,rfl⟩
def eL.more{w w':World}(h:eL w w')(n:Nat):eL w (w'.drewN n):=by
 obtain⟨m,rfl⟩:=h;exact⟨m+n,(World.drewN_drewN w m n).symm⟩
def eL.drew{w w':World}(h:eL w w'):eL w w'.drew:=h.more 1
def eL.trans{a b c:World}(h:eL a b)(k:eL b c):eL a c:=by
 obtain⟨m,rfl⟩:=k;exact h.more m
def eL.heap{w w':World}(h:eL w w'):w'.heap=w.heap:=by
 obtain⟨m,rfl⟩:=h;rfl
def eL.below{w w':World}(h:eL w w')(B:Nat):Below B w w':=by
 obtain⟨m,rfl⟩:=h;exact⟨rfl,rfl,rfl,Nat.le_refl _,fun _ _=>rfl⟩
def qH{B:Nat}{a w:World}(h:Below B a w)(n:Nat):Below B a (w.drewN n):=⟨h.os,h.tape,h.output,h.size,h.block⟩
section
variable{w w':World}{g:Nat}{t:TypeId}{cs:Array Value}
def aE.lt(h:aE w g t cs):g<w.heap.size:=by
 rcases cD g w with j|C
 .exact j
 .unfold aE at h;rw[cV C]at h;cases h
def aE.cell(h:aE w g t cs)(i:Nat):w.cell? (g,i)=cs[i]? :=cell_of_row w g i cs t (0,0) h
def aE.free(h:aE w g t cs)(i:Nat):w.frozen? (g,i)=false:=frozen_of_row w g i cs t h
def aE.new(w:World)(t:TypeId)(cs:Array Value):aE (w.alloc (.cells cs t)) w t cs:=heap_alloc_new w _
def aE.newAt(w:World)(t:TypeId)(cs:Array Value)(j:n=w.heap.size):aE (w.alloc (.cells cs t)) n t cs:=by subst j;exact aE.new w t cs
def aE.drew(h:aE w g t cs):aE w.drew g t cs:=h
def aE.drewN(h:aE w g t cs)(n:Nat):aE (w.drewN n) g t cs:=h
def aE.alloc(h:aE w g t cs)(o:Obj):aE (w.alloc o) g t cs:=(heap_alloc_old w o (h:=h.lt)).trans h
def aE.put(h:aE w g t cs)(i:Nat)(u:Value):aE (w.setCell (g,i) u) g t (cs.setIfInBounds i u):=by
 unfold aE at h|-;simp[World.setCell,nC,h]
def aE.iD(h:aE w g t cs){p:Addr}(j:g≠p.block)(u:Value):aE (w.setCell p u) g t cs:=(heap_setCell_other w p g u j).trans h
def aE.below{B:Nat}(h:aE w g t cs)(j:Below B w w')(C:g<B):aE w' g t cs:=(j.block g C).trans h
def aE.drawn(h:aE w g t cs)(j:eL w w'):aE w' g t cs:=by
 obtain⟨n,rfl⟩:=j;exact h
def aE.same(h:aE w g t cs)(j:w'.heap=w.heap):aE w' g t cs:=by
 unfold aE;rw[j];exact h
def Ce(l:List Int):(ints l).size=l.length:=by simp[ints]
def Ht(l:List Int)(h:i<l.length):(ints l)[i]? =(l.getD i 0):=by
 simp[ints,ah,h]
def ints_set(l:List Int)(i:Nat)(x:Int):(ints l).setIfInBounds i x=ints (l.set i x):=by
 simp[ints,List.map_set]
def aE.int(h:aE w g t (ints l))(j:i<l.length):w.cell? (g,i)=(l.getD i 0):=by
 rw[h.cell,Ht l j]
def aE.nY(h:aE w g t (ints l))(j:i<l.length):∃x,w.cell? (g,i)=some (.int .i64 x)/\Hid (l.getD i 0=x):=
 ⟨_,h.int j,rfl⟩
def aE.jK(h:aE w g t (ints l))(i:Nat)(x:Int):aE (w.setCell (g,i) x) g t (ints (l.set i x)):=by
 have:=h.put i x;rwa[ints_set]at this
def zp(n:Nat):madeCells (Value.int .i64 0).cells (n*1)=ints (List.replicate n 0):=by
 apply Fx;rw[iM];show(madeCells #[Value.int .i64 0] n).toList=_;rw[toList_madeCells_one];simp[ints]
variable{B:Nat}{A:Option Addr}{xs:List Value}
def lV.nil(w:World)(B:Nat)(A:Option Addr):lV w B A []:=fun h=>absurd rfl h
def lV.keep(h:lV w B A xs)(E:∀p:Addr,p.block<B->w'.cell? p=w.cell? p):lV w' B A xs:=fun H=>by
 obtain⟨b,C,e,D,I⟩:=h H;exact⟨b,C,e,D,fun j J=>(E _ D).trans (I j J)⟩
def lV.below(h:lV w B A xs)(j:Below B w w'):lV w' B A xs:=h.keep fun _ C=>j.cell C
def lV.drawn(h:lV w B A xs)(j:eL w w'):lV w' B A xs:=h.below (j.below B)
def lV.drew(h:lV w B A xs):lV w.drew B A xs:=h
def lV.drewN(h:lV w B A xs)(k:Nat):lV (w.drewN k) B A xs:=h
def lV.more(h:lV w B A xs){C:Nat}(H:B<=C):lV w C A xs:=fun D=>by
 obtain⟨b,j,e,I,E⟩:=h D;exact⟨b,j,e,by omega,E⟩
def lV.alloc(h:lV w B A xs)(j:B<=w.heap.size)(o:Obj):lV (w.alloc o) B A xs:=h.keep fun p C=>World.cell?_alloc_lt w o p (by omega)
def lV.setCell(h:lV w B A xs){p:Addr}(j:B<=p.block)(u:Value):lV (w.setCell p u) B A xs:=
 h.keep fun q hq=>World.cell?_setCell_other w p q u (fun e=>by subst e;omega)
def lV.MO(h:aE w g t cs)(C:g<B):lV w B g cs.toList:=fun _=>by
 refine⟨g,0,rfl,C,fun j _=>?_⟩;rw[bc,h.cell];simp
def lV.take(h:lV w B A xs)(n:Nat):lV w B A (xs.take n):=fun D=>by
 obtain⟨b,C,e,E,H⟩:=h (by rintro rfl;simp at D);refine⟨b,C,e,E,fun j I=>?_⟩;rw[aN]at I;rw[H j (by omega),bU (by omega)]
def lV.at_(h:lV w B A xs){k:Nat}(C:k<xs.length):∃b j,A=some ⟨b,j,none⟩/\b<B/\w.cell? ⟨b,j+k,none⟩=xs[k]? :=by
 obtain⟨b,j,e,D,E⟩:=h (by rintro rfl;simp at C);exact⟨b,j,e,D,E k C⟩
def gB(w:World)(B:Nat)(A:Option Addr)(l:List Int):Prop:=lV w B A (l.map (Value.int .i64))
def gB.at_{l:List Int}(h:gB w B A l){k:Nat}(C:k<l.length):
 ∃b j x,A=some ⟨b,j,none⟩/\b<B/\w.cell? ⟨b,j+k,none⟩=some (.int .i64 x)/\Hid (l.getD k 0=x):=by
 obtain⟨b,j,e,D,E⟩:=lV.at_ h (k:=k) (by simpa using C);refine⟨b,j,_,e,D,E.trans ?_,rfl⟩;simp[ah,C]
def gB.below{l:List Int}(h:gB w B A l)(j:Below B w w'):gB w' B A l:=lV.below h j
def gB.drawn{l:List Int}(h:gB w B A l)(j:eL w w'):gB w' B A l:=lV.drawn h j
def gB.drew{l:List Int}(h:gB w B A l):gB w.drew B A l:=h
def gB.drewN{l:List Int}(h:gB w B A l)(k:Nat):gB (w.drewN k) B A l:=h
def gB.more{l:List Int}(h:gB w B A l){j:Nat}(C:B<=j):gB w j A l:=lV.more h C
def gB.alloc{l:List Int}(h:gB w B A l)(j:B<=w.heap.size)(o:Obj):gB (w.alloc o) B A l:=lV.alloc h j o
def gB.setCell{l:List Int}(h:gB w B A l){p:Addr}(j:B<=p.block)(u:Value):gB (w.setCell p u) B A l:=lV.setCell h j u
def gB.nil(w:World)(B:Nat)(A:Option Addr):gB w B A []:=lV.nil w B A
def gB.take{l:List Int}(h:gB w B A l)(n:Nat):gB w B A (l.take n):=by
 have:=lV.take h n;simpa[gB,Dh]using this
def gB.MO{l:List Int}(h:aE w g t (ints l))(j:g<B):gB w B g l:=by
 have:=lV.MO h j;simpa[ints,gB]using this
end
def room{α:Type}(l:List α)(m z:α)(k:Nat):List α:=l++List.replicate k m++List.replicate (80-k) z
end Mem
end
section
namespace Mem
def dU{α:Type}(w:World)(B:Nat)(A:Option Addr)(sz:Nat)(fl:α->List Value)(l:List α):Prop:=
 l≠[]->∃b a,A=some ⟨b,a,none⟩/\b<B/\∀i x,l[i]? =some x->∀j v,(fl x)[j]? =some v->w.cell? ⟨b,a+i*sz+j,none⟩=some v
section
variable{α:Type}{w w':World}{B:Nat}{A:Option Addr}{sz:Nat}{fl:α->List Value}{l:List α}
def dU.nil(w:World)(B:Nat)(A:Option Addr)(sz:Nat)(fl:α->List Value):dU w B A sz fl []:=fun h=>absurd rfl h
def dU.keep(h:dU w B A sz fl l)(E:∀p:Addr,p.block<B->w'.cell? p=w.cell? p):dU w' B A sz fl l:=fun H=>by
 obtain⟨b,C,e,D,I⟩:=h H;exact⟨b,C,e,D,fun i x J j v L=>(E (b,C+i*sz+j) D).trans (I i x J j v L)⟩
def dU.below(h:dU w B A sz fl l)(j:Below B w w'):dU w' B A sz fl l:=h.keep fun _ C=>j.cell C
def dU.drawn(h:dU w B A sz fl l)(j:eL w w'):dU w' B A sz fl l:=h.below (j.below B)
def dU.more(h:dU w B A sz fl l){C:Nat}(H:B<=C):dU w C A sz fl l:=fun D=>by
 obtain⟨b,j,e,I,E⟩:=h D;exact⟨b,j,e,by omega,E⟩
def dU.alloc(h:dU w B A sz fl l)(j:B<=w.heap.size)(o:Obj):dU (w.alloc o) B A sz fl l:=h.keep fun p C=>World.cell?_alloc_lt w o p (by omega)
def dU.setCell(h:dU w B A sz fl l){p:Addr}(j:B<=p.block)(u:Value):dU (w.setCell p u) B A sz fl l:=
 h.keep fun q hq=>World.cell?_setCell_other w p q u (fun e=>by subst e;omega)
def dU.take(h:dU w B A sz fl l)(n:Nat):dU w B A sz fl (l.take n):=fun D=>by
 obtain⟨b,C,e,E,H⟩:=h (by rintro rfl;simp at D);refine⟨b,C,e,E,fun i x j=>H i x ?_⟩;rw[br]at j;split at j
 .exact j
 .cases j
def dU.at_(h:dU w B A sz fl l){k:Nat}(D:k<l.length):
 ∃b C x,A=some ⟨b,C,none⟩/\b<B/\Hid (l[k]? =some x)/\∀j v,(fl x)[j]? =some v->w.cell? ⟨b,C+k*sz+j,none⟩=some v:=by
 obtain⟨b,C,e,E,H⟩:=h (by rintro rfl;simp at D);exact⟨b,C,l[k],e,E,List.getElem?_eq_getElem D,H k _ (af D)⟩
def Hu(a:∀x,(fl x).length=sz)(l:List α):(l.flatMap fl).length=l.length*sz:=by
 induction l with
 |nil=>simp
 |cons x l ih=>simp[bR,a,ih,Nat.add_mul];omega
def flat_get(a:∀x,(fl x).length=sz){x:α}(b:l[i]? =some x){j:Nat}(c:(fl x)[j]? =some v):(l.flatMap fl)[i*sz+j]? =some v:=by
 induction l generalizing i with
 |nil=>simp at b
 |cons y l ih=>
  have d:j<sz:=by rw[<-a x];exact(aa.1 c).1
  cases i with
  |zero=>
   have:y=x:=by simpa using b
   subst this;rw[bR,ez,bc,an (by rw[a];exact d)];exact c
  |succ i=>
   rw[bR,ay (by rw[a,Nat.add_mul];omega),a];rw[show(i+1)*sz+j-sz=i*sz+j by rw[bp];omega];exact ih (by simpa using b)
def dU.qI{base:Nat}(H:∀x,(fl x).length=sz)(I:0<sz)(h:w.ownsRow base e sz (.slice A n c) n (l.flatMap fl)):dU w w A sz fl l:=fun Q=>by
 have C:=h.1;rw[Hu H]at C;have R:=Nat.eq_of_mul_eq_mul_right I C;have O:0<l.length:=by
  rcases cz l.length with h0|h0
  .exact absurd (aD h0) Q
  .exact h0
 rcases h.2 with⟨_,X⟩|⟨g,cap,J,L,Y,M,S,P,T,D⟩
 .omega
 .injection L with V Z a3;subst V;refine⟨g,0,rfl,?_,fun i x W j v L=>?_⟩
  .rcases cD g w with E|N
   .exact E
   .rw[cV N]at M;cases M
  .have hq:=flat_get H W L;rw[<-D]at hq;rw[bc,jG w g _ J e (0,0) M];have E:=(List.getElem?_eq_some_iff.1 hq).1;rw[aN]at E;rw[bU (by omega)]at hq;simpa using hq
def aV(h:w.ownsRow a e sz v n d):∃A c,v=.slice A n c/\n<=c:=by
 rcases h.2 with⟨rfl,rfl⟩|⟨g,cap,f,rfl,i,j,b,_⟩
 .exact⟨none,0,rfl,Nat.le_refl _⟩
 .exact⟨_,cap,rfl,b⟩
def dl(w:World)(a:Nat)(e:TypeId)(sz:Nat):w.ownsRow a e sz zn 0 []:=⟨by simp,.inl ⟨rfl,rfl⟩⟩
def aZ{i:List Value}(h:w.ownsRow a e sz v n i)(j:∀g,v.ownBlock=some g->g<w.heap.size->w'.heap[g]? =w.heap[g]?):w'.ownsRow a e sz v n i:=by
 refine⟨h.1,?_⟩;rcases h.2 with⟨rfl,rfl⟩|⟨g,cap,b,rfl,k,c,m⟩
 .exact .inl ⟨rfl,rfl⟩
 .refine .inr ⟨g,cap,b,rfl,k,?_,m⟩;rw[j g rfl ?_,c];rcases cD g w with d|f
  .exact d
  .rw[cV f]at c;cases c
def kT{k:TypeId}{m:Value}{r d:Nat}{s f:List Value}(h:w.ownsRow c e sz v n s)(t:w.ownsRow b k d m r f)(i:e≠k){g:Nat}(j:v.ownBlock=some g):some g≠m.ownBlock:=by
 intro hq;rcases h.2 with⟨rfl,rfl⟩|⟨y,cap,u,rfl,_,o,_⟩
 .simp[Value.ownBlock]at j
 .rcases t.2 with⟨rfl,rfl⟩|⟨z,p,q,rfl,_,a,_⟩
  .simp[Value.ownBlock]at hq
  .simp only[Value.ownBlock,aK]at j hq;rw[j]at o;rw[<-hq,o]at a;injection a with a;injection a with _ x;exact i x
def OJ{j:TypeId}{k:Value}{o:Nat}{m:List Value}(h:w.ownsRow a e sz v n m)(p:w.ownsRow b j c k o d)(f:e≠j)(q:w.grownBy w' k.ownBlock):w'.ownsRow a e sz v n m:=
 aZ h (fun g r i=>q.block g i (kT h p f r))
def YT{i:List Value}(h:w.ownsRow a e sz v n i){g:Nat}(b:v.ownBlock=some g):g<w.heap.size:=by
 rcases h.2 with⟨rfl,rfl⟩|⟨j,cap,k,rfl,_,f,_⟩
 .simp[Value.ownBlock]at b
 .simp only[Value.ownBlock,aK]at b;subst b;rcases cD j w with c|d
  .exact c
  .rw[cV d]at f;cases f
def ca{c:List Value}(h:w.ownsRow a e sz v n c)(d:Below w w w'):w'.ownsRow a e sz v n c:=
 aZ h (fun g _ b=>d.block g b)
def dw{B:Nat}{a:World}(f:Below B a w)(h:w.ownsRow b e sz v n d)(i:w.grownBy w' v.ownBlock)(p:B<=b)(j:B<=w.heap.size):Below B a w':=
 f.grown i j (fun k c=>by
  rcases h.2 with⟨rfl,rfl⟩|⟨g,cap,m,rfl,o,_⟩
  .simp[Value.ownBlock]at c
  .simp only[Value.ownBlock,aK]at c;omega)
end
end Mem
end
open Go.ChangeShapes Go.WideShapes Go.Joins Go.Deep Mem
section
namespace Opn
def Et(a:Int):Prop:= -9223372036854775808<=a/\a<=9223372036854775807
def OK{a:Int}(h:(Lit.int .i64 a).wf=true):Et a:=by
 simp[Lit.wf,IntKind.min,IntKind.max,IntKind.signed,IntKind.bits]at h;exact⟨by omega,by omega⟩
def aaD(W:World)(A:Option Addr)(l:List Int)(c:Nat):Prop:=gB W W A l/\l.length<=c/\c<=17592186043904/\∀x∈l,Et x
section
variable{H:Type}{enc:TypeId×Value->H}{P:Program}{W:World}
def RU{t:TypeId}{d:DataW H}{p:List MemPlace}(I:P.underlying t=some (.slice e))(J:P.underlying e=some (.int .i64))(K:P.cellsOf e=1)(L:P.bytesOf e=8)
 (M:∃a len cap,v=.slice a len cap)(h:DataW.Trod enc P W 0 (fun _=>true) true t v d p)(u:∀x∈p,x.block<W.heap.size)
 (N:∀B C,d=.slice B C->(B.length+C.length)*P.bytesOf e<=reachBytes):
 ∃A l c,v=.slice A l.length c/\aaD W A l c:=by
 obtain⟨a,len,cap,rfl⟩:=M;obtain⟨D,O⟩:=h;rcases open_ints I J K O with⟨f,_⟩|⟨x,n,c,o,f,_,S,T,Q,E,g,w⟩
 .simp[Value.cells]at f;obtain⟨rfl,rfl,rfl⟩:=f;exact⟨none,[],0,rfl,lV.nil _ _ _,Nat.le_refl _,by omega,by simp⟩
 .simp[Value.cells]at f;obtain⟨rfl,rfl,rfl⟩:=f;simp only[iu]at Q;simp only[De]at E;obtain⟨rfl,rfl⟩:=E;have F:=N _ _ rfl;rw[L]at F;simp only[lits,aj,aN,cS,reachBytes]at F;have k:(o.take len).length=len:=by simp;omega
  refine⟨some x,o.take len,cap,by rw[k],?_,by omega,by omega,fun y R=>OK (w y (List.mem_of_mem_take R))⟩;intro z;have q:0<o.length:=by
   rcases cz o.length with h0|h0
   .have:o=[]:=List.eq_nil_of_length_eq_zero h0;subst this;simp at z
   .exact h0
  obtain⟨b,i,r⟩:=x;have h0:=g 0 q;have m:r=none:=by simpa[Addr.add]using World.cell?_spot h0
  subst m;refine⟨b,i,rfl,u (.cell b i) (MemPlace.mem_row.2 ⟨0,by omega,by simp⟩),fun j G=>?_⟩;rw[aj,k]at G;have s:j<o.length:=by omega
  have:=g j s;rw[show(Addr.add (b,i) j)=(b,i+j) by unfold Addr.add;split<;>simp_all]at this;rw[this];simp[bU G,List.getD_eq_getElem?_getD,s]
end
end Opn
end
namespace ep
structure Nd where
 kind:Int
 name:ByteArray
 text:ByteArray
 par:Int
 fst:Int
 lst:Int
 prv:Int
 nxt:Int
def lp:Nd:=⟨0,eQ,eQ,0,0,0,0,0⟩
def Nd.arr(x:Nd):Array Value:=#[x.kind,x.name,x.text,zn,x.par,x.fst,x.lst,x.prv,x.nxt]
def Nd.cells(x:Nd):List Value:=x.arr.toList
def th(x:Nd):x.cells.length=9:=rfl
def qJ(x:Nd):x.arr.all (·.oneCell')=true:=by simp[Nd.arr,Value.oneCell']
def nZ(p:Int):List Int->List Int
 |[]=>[]
 |t::r=>if t=p then t::r else nZ p r
def Cg(L:List Nd)(n:Nat)(x:Nd)(b a:List Int):Option (List Int×List Int):=
 if n=0 then some (0::b,a.set n (-1))else
 match nZ x.par b with
 |[]=>none
 |t::r=>
  if x.prv≠(a.set n (-1)).getD x.par.toNat 0 then none else
  if x.prv= -1/\(L.getD x.par.toNat lp).fst≠n then none else
  if x.prv≠-1/\(L.getD x.prv.toNat lp).nxt≠n then none else
  some (if x.kind=1 then(n:Int)::t::r else t::r,(a.set n (-1)).set x.par.toNat n)
def nb(L:List Nd):Nat->List Nd->List Int->List Int->Option (List Int)
 |_,[],_,a=>some a
 |n,x::r,b,a=>match Cg L n x b a with
  |none=>none
  |some s=>nb L (n+1) r s.1 s.2
def Nd.lone(x:Nd):Prop:=(x.kind=1/\x.name.toList.isEmpty=false/\x.text.toList.isEmpty=true)\/(x.kind=2/\x.name.toList.isEmpty=true/\x.text.toList.isEmpty=false/\x.fst= -1/\x.lst= -1)
structure uo(L:List Nd)(last:List Int):Prop where
 pos:0<L.length
 len:L.length<=4000
 root:∃x,L[0]? =some x/\x.kind=1/\x.par= -1/\x.prv= -1/\x.nxt= -1
 lone:∀(n:Nat) x,L[n]? =some x->x.lone
 par:∀(n:Nat) x,L[n]? =some x->0<n->0<=x.par/\x.par<n
 prv:∀(n:Nat) x,L[n]? =some x->x.prv= -1\/(0<=x.prv/\x.prv<L.length)
 run:nb L 0 L [] (List.replicate L.length 0)=some last
 fin:∀(n:Nat) x,L[n]? =some x->x.lst=last.getD n 0/\(last.getD n 0= -1->x.fst= -1)/\(last.getD n 0≠-1->0<=last.getD n 0/\last.getD n 0<L.length/\(L.getD (last.getD n 0).toNat lp).nxt= -1)
end ep
namespace Num
def sat(n:Int):Int:=min (max n (-70368744177664)) 70368744177664
def add(a b:Int):Int:=sat (sat a+sat b)
def sub(a b:Int):Int:=sat (sat a-sat b)
def clip(n a b:Int):Int:=min (max n a) b
def cB(l:List Int):Nat->Int
 |0=>0
 |k+1=>add (cB l k) (l.getD k 0)
def Eu(n:Int): -70368744177664<=sat n:=by unfold sat;omega
def Ew(n:Int):sat n<=70368744177664:=by unfold sat;omega
def RV{a n m:Int}(b: -70368744177664<=a)(c:a<=70368744177664)(e: -65536<=n)(f:n<=65536)(d:m=a*n): -4611686018427387904<=m/\m<=4611686018427387904:=by
 subst d;constructor
 .rcases Int.le_total 0 n with h|h
  .calc (-4611686018427387904:Int)<= -70368744177664*65536:=by decide
    _<= -70368744177664*n:=by omega
    _<=a*n:=Int.mul_le_mul_of_nonneg_right b h
  .calc (-4611686018427387904:Int)<=70368744177664*n:=by omega
    _<=a*n:=Int.mul_le_mul_of_nonpos_right c h
 .rcases Int.le_total 0 n with h|h
  .calc a*n<=70368744177664*n:=Int.mul_le_mul_of_nonneg_right c h
    _<=4611686018427387904:=by omega
  .calc a*n<= -70368744177664*n:=Int.mul_le_mul_of_nonpos_right b h
    _<=4611686018427387904:=by omega
end Num
open Num
def l6{k:IntKind}{a b:Int}(h:a=b):Ending.returned (.int k a)=.returned (.int k b):=by rw[h]
def aU{p:Prop}(h:p):Hid p:=h
def rN(n:Int)(w:World):Calls tp 197 #[n] w fun e a=>e=.returned (sat n)/\w=a:=by
 go_enter Tryz.func197,Tryz.ntmps197
 go_wp2
 go_ret
 exact⟨rfl,rfl⟩
def mc(a b:Int)(w:World):Calls tp 141 #[a,b] w fun e c=>e=.returned (add a b)/\w=c:=by
 have d:=Eu a;have f:=Ew a;have g:=Eu b;have h:=Ew b;go_enter Tryz.func141,Tryz.ntmps141
 go_wp2_with (go_at_call 197;refine(rN _ _).mono ?_;rintro e c ⟨rfl,rfl⟩)
 go_ret
 exact⟨rfl,rfl⟩
def n7(a b:Int)(w:World):Calls tp 129 #[a,b] w fun e c=>e=.returned (sub a b)/\w=c:=by
 have d:=Eu a;have f:=Ew a;have g:=Eu b;have h:=Ew b;go_enter Tryz.func129,Tryz.ntmps129
 go_wp2_with (go_at_call 197;refine(rN _ _).mono ?_;rintro e c ⟨rfl,rfl⟩)
 go_ret
 exact⟨rfl,rfl⟩
