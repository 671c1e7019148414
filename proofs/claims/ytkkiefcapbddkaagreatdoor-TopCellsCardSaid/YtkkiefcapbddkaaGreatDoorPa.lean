/- part of topCells.proved -/
import Derived.Test.YtkkiefcapbddkaaGreatDoorCi
import Derived.Test.YtkkiefcapbddkaaGreatDoorCards
import Derived.Test.YtkkiefcapbddkaaGreatDoorTie
set_option linter.all false
set_option maxRecDepth 1000000
set_option maxHeartbeats 0
noncomputable section
namespace Go.Proofs.YtkkiefcapbddkaaGreatDoor
open Go.ChangeShapes Go.WideShapes Go.RowKit Go.Joins Go.Deep Mem
section
namespace Opn
section
variable{H:Type}{enc:TypeId×Value->H}{P:Program}{W:World}
end
end Opn
end
section
namespace Opn
section
variable{H:Type}{enc:TypeId×Value->H}{P:Program}{W:World}
def Jf{e:TypeId}{l:List (DataW H)}{d:DataW H}(b:d∈l){n:Nat}(c:n∈d.weights P e):n∈DataW.weightsAll P e l:=by
 induction l with
 |nil=>simp at b
 |cons a l ih=>
  simp only[DataW.weightsAll,aJ];rcases aw.1 b with h|h
  .subst h;exact .inl c
  .exact .inr (ih h)
def LH{t e q:TypeId}{v:Value}{d:DataW H}{p:List MemPlace}(F:P.underlying t=some (.slice e))(N:P.underlying e=some (.slice q))(ce:P.cellsOf e=1)(Y:P.bytesOf e=24)
 (Z:∃a len cap,v=.slice a len cap)(h:DataW.Trod enc P W 0 (fun _=>true) true t v d p)(o:∀x∈p,x.block<W.heap.size)(O:∀n∈d.weights P t,n<=reachBytes):
 ∃A E c,v=.slice A E.length c/\E.length<=c/\c<=4611686018427387904/\lV W W A E/\
  ∀u∈E,(∃a len cap,u=.slice a len cap)/\∃Q R,DataW.Trod enc P W 0 (fun _=>true) true e u Q R/\(∀x∈R,x.block<W.heap.size)/\(∀G I,Q=.slice G I->(G.length+I.length)*P.bytesOf q<=reachBytes):=by
 obtain⟨a,len,cap,rfl⟩:=Z;obtain⟨S,hf⟩:=h;rcases open_slice1 F ce hf with⟨g,_⟩|⟨x,n,c,m,q',V,D,Pl,g,_,hl,hm,r,T,J⟩
 .simp[Value.cells]at g;obtain⟨rfl,rfl,rfl⟩:=g;exact⟨none,[],0,rfl,Nat.le_refl _,by omega,lV.nil _ _ _,by simp⟩
 .simp[Value.cells]at g;obtain⟨rfl,rfl,rfl⟩:=g;simp only[iu]at r;subst r;simp only[De]at T;obtain⟨rfl,rfl⟩:=T;have s:m*24<=reachBytes:=by
   have:=O ((((List.range len).map D).length+((List.range (m-len)).map fun j=>D (len+j)).length)*P.bytesOf e) (by simp[DataW.weights,F]);rw[Y]at this;simp only[aj,ke]at this;rwa[show len+(m-len)=m by omega]at this
  refine⟨some x,(List.range len).map V,m,by simp,by simpa using hl,by unfold reachBytes at s;omega,?_,?_⟩
  .intro K;have U:0<len:=by
    rcases cz len with h0|h0
    .subst h0;simp at K
    .exact h0
   obtain⟨b,w,z⟩:=x;have h0:=(J 0 (by omega)).1;have k:z=none:=by simpa[Addr.add]using World.cell?_spot h0
   subst k;refine⟨b,w,rfl,o (.cell b w) (List.mem_append_left _ (MemPlace.mem_row.2 ⟨0,by omega,by simp⟩)),fun j hj=>?_⟩;have L:j<len:=by simpa using hj
   have l:=(J j (by omega)).1;rw[Addr.add_mid]at l;rw[l];simp[L]
  .intro u X;rw[aL]at X;obtain⟨i,B,rfl⟩:=X;rw[rn]at B;obtain⟨h1,l⟩:=J i (by omega);have f:∃a len cap,V i=.slice a len cap:=by
    rcases open_slice N l with⟨C,_⟩|⟨a,l2,c2,_,_,_,_,C,_⟩
    .simp at C;exact⟨_,_,_,C⟩
    .simp at C;exact⟨_,_,_,C⟩
   refine⟨f,D i,Pl i,⟨q',?_⟩,fun y hy=>o y (List.mem_append_right _ (List.mem_flatMap.2 ⟨i,List.mem_range.2 (by omega),hy⟩)),fun G I e1=>?_⟩
   .obtain⟨a,l2,c2,M⟩:=f;rw[M]at l|-;exact l
   .refine O _ ?_;simp only[DataW.weights,F,List.mem_cons,aJ];right;left;refine Jf (d:=D i) (List.mem_map.2 ⟨i,List.mem_range.2 B,rfl⟩) ?_;rw[e1];simp[DataW.weights,N]
def Jg{α:Type}{sz:Nat}{fl:α->List Value}{ok:α->Prop}:∀{vs:List Value},(∀u∈vs,∃a r c,u=.slice a r.length c/\r.length<=c/\c<=4611686018427387904/\dU W W a sz fl r/\∀x∈r,ok x)->
 ∃b:List (List α),vs.length=b.length/\(∀(i:Nat) (r:List α),b[i]? =some r->∃a c,vs[i]? =some (Value.slice a r.length c)/\r.length<=c/\dU W W a sz fl r)/\∀r∈b,r.length<=4611686018427387904/\∀x∈r,ok x:=by
 intro vs;induction vs with
 |nil=>intro _;exact⟨[],rfl,fun i r h=>by simp at h,by simp⟩
 |cons v vs ih=>
  intro h;obtain⟨a,r,c,rfl,d,n,f,g⟩:=h v (by simp);obtain⟨b,j,k,l⟩:=ih (fun u m=>h u (by simp[m]));refine⟨r::b,by simp[j],fun i q hq=>?_,fun q hq=>?_⟩
  .cases i with
   |zero=>
    have:r=q:=by simpa using hq
    subst this;exact⟨a,c,rfl,d,f⟩
   |succ i=>exact k i q (by simpa using hq)
  .rcases aw.1 hq with e|e
   .subst e;exact⟨by omega,g⟩
   .exact l q e
end
end Opn
open Num
def Fv{w:World}{B:Nat}{A:Option Addr}{r:List Int}(h:gB w B A r):dU w B A 1 PB r:=fun g=>by
 obtain⟨b,a,e,k,l⟩:=h (by simpa using g);refine⟨b,a,e,k,fun i x d j v f=>?_⟩;have m:=(List.getElem?_eq_some_iff.1 d).1;have:=l i (by simpa using m);cases j with
 |succ j=>simp[PB]at f
 |zero=>
  have c:Value.int .i64 x=v:=by simpa[PB]using f
  subst c;rw[iM,dI,this];simp[d]
structure abe(W:World)(A:Option Addr)(ls:List (List Int))(c:Nat):Prop where
 ex:∃vs,lG W W A 1 PB vs ls
 cap:ls.length<=c
 few:c<=4611686018427387904
 ok:∀r∈ls,r.length<=4611686018427387904/\∀x∈r,Opn.Et x
namespace Opn
section
variable{H:Type}{enc:TypeId×Value->H}{W:World}
def P9{v:Value}{d:DataW H}{p:List MemPlace}(o:∃a len cap,v=.slice a len cap)(h:DataW.Trod enc tp W 0 (fun _=>true) true 42 v d p)(e:∀x∈p,x.block<W.heap.size)
 (q:∀n∈d.weights tp 42,n<=reachBytes):
 ∃A b c,v=.slice A b.length c/\abe W A b c:=by
 obtain⟨A,f,c,rfl,s,g,t,w⟩:=LH Tryz.underlying42 fD (by kernel_rfl) (by kernel_rfl) o h e q;obtain⟨b,i,y,z⟩:=Jg (W:=W) (sz:=1) (fl:=PB) (ok:=fun x=>Et x) (vs:=f) (fun u B=>by
  obtain⟨j,J,K,C,D,E⟩:=w u B;obtain⟨F,r,G,rfl,k,l,I,m⟩:=RU fD Tryz.underlying3 (by kernel_rfl) (by kernel_rfl) j C D E;exact⟨F,r,G,rfl,l,by omega,Fv k,m⟩)
 exact⟨A,b,c,by rw[i],⟨f,i,t,y⟩,by rw[<-i];exact s,g,z⟩
end
end Opn
end
end Go.Proofs.YtkkiefcapbddkaaGreatDoor
namespace Go.Proofs.YtkkiefcapbddkaaGreatDoor.topCells
open Go.ChangeShapes Go.WideShapes Go.ChangeAt Go.RowKit Mem Opn
def own:ownKnob Tryz.prog.godebug=none:=by kernel_rfl
def laidOut:laidOutB tp=true:=by kernel_rfl
def gSp:Tryz.prog.globalNamed "strings.asciiSpace" =some 3:=by kernel_rfl
def Xs:(Tryz.prog.globals[3]?).map (·.type)=some 461:=by kernel_rfl
def T5:Tryz.prog.cellsOf 461=256:=by kernel_rfl
def Z8:Tryz.prog.cellsOf 5=1:=by kernel_rfl
def spZ:List Int:=List.replicate 9 0++(List.replicate 5 1++(List.replicate 18 0++(1::List.replicate 223 0)))
def T6:Rows.laid_strings_asciiSpace (H:=Unit)=Lib.tabData .u8 spZ:=by rfl
def T7{W:World}(h:laidMetH tp Rows.topCellsRow.laid W):Go.Abs.nX W:=by
 have k:laidMet tp Rows.topCellsRow.laid W:=h;have l:laidMet tp [("strings.asciiSpace",Lib.tabData .u8 spZ),("unicode/utf8.first",Rows.laid_unicode_utf8_first)] W:=by
  have:=k.tail.tail;rw[<-T6];exact this
 have a:=Lib.tabIs_of_head gSp Xs Tryz.underlying461 sw Z8 T5 l;unfold Lib.TabIs World.var? at a;rw[gSp]at a;simp only[aT]at a;split at a
 .next c t m n=>
  cases a;refine⟨_,t,m,n,by simp[spZ],fun j d v b e=>?_⟩;rw[cK,ai]at e;have f:Go.Abs.sG=spZ.map fun z=>Go.Abs.D.i .u8 z:=by rfl
  rw[f,List.getElem?_map]at b;cases g:spZ[j]? with
  |none=>rw[g]at b;cases b
  |some z=>
   rw[g]at b e;cases b;cases e;exact⟨z,rfl,rfl⟩
 .cases a
def mm(a:Os):World:=
 let N:=(World.settled tp a).heap.size
 let b:=World.holding tp a ⟨#[.cells #[.int .u16 9,.int .u16 13,.int .u16 1,.int .u16 32,.int .u16 133,.int .u16 101,.int .u16 160,.int .u16 5760,.int .u16 5600,.int .u16 8192,.int .u16 8202,.int .u16 1,.int .u16 8232,.int .u16 8233,.int .u16 1,.int .u16 8239,.int .u16 8287,.int .u16 48,.int .u16 12288,.int .u16 12288,.int .u16 1] 501,
  .cells #[(N,7,7),zn,zZ] 498],#[],[]⟩
 let put (h:Array Obj) (g:Nat) (c:Array Value):Array Obj:=h.modify g fun
  |.cells _ t frozen=>.cells c t frozen
  |o=>o
 let d:=put b.heap 1 (Lib.firstTab.map fun z=>Value.int .u8 z).toArray
 let e:=put d 2 ((List.range 16).flatMap fun i=>[Value.int .u8 (Lib.accLo i),Value.int .u8 (Lib.accHi i)]).toArray
 let f:=put e 3 (spZ.map fun z=>Value.int .u8 z).toArray
 let j:=put f 4 #[pt (N+1)]
 {b with heap:=j}
