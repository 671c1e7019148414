/- part of topCells.proved -/
import Derived.Test.YtkkiefcapbddkaaGreatDoorVa
set_option linter.all false
set_option maxRecDepth 1000000
set_option maxHeartbeats 0
noncomputable section
namespace Go.Abs
open Go.RowKit Go.Proofs YtkkiefcapbddkaaGreatDoor Mem ep
structure Bc where
 kind:Int
 node:Int
 ix:Int
 sty:List D
 text:ByteArray
 kv:Value
def Bc.cells(b:Bc):List Value:=.int .i64 b.kind::.int .i64 b.node::.int .i64 b.ix::(b.sty.map dV++[.string b.text,b.kv])
def Bc.arr(b:Bc):Array Value:=b.cells.toArray
structure Bc.Ok(b:Bc):Prop where
 sty:ik b.sty
 one:b.kv.oneCell'=true
def Bc.len{b:Bc}(h:ik b.sty):b.cells.length=57:=by simp[Bc.cells,h.n]
def Bc.size{b:Bc}(h:b.Ok):b.arr.size=57:=by
 show b.cells.toArray.size=57;rw[bj];exact Bc.len h.sty
def Bc.pV{b:Bc}(h:b.Ok):∀u∈b.cells,u.oneCell'=true:=by
 intro u j;simp only[Bc.cells,aw,aJ,bB,eA]at j;rcases j with rfl|rfl|rfl|j|rfl|rfl
 .rfl
 .rfl
 .rfl
 .obtain⟨d,A,rfl⟩:=List.mem_map.1 j;have B:=List.all_eq_true.1 h.sty.p d A;cases d<;>first|rfl|cases B
 .rfl
 .exact h.one
def Bc.all{b:Bc}(h:b.Ok):b.arr.all (·.oneCell')=true:=by
 rw[jD];intro x j;exact Bc.pV h x (by simpa[Bc.arr]using j)
def Bc.Wd{b:Bc}(h:ik b.sty):b.arr[55]? =b.text:=by
 have j:(b.sty.map dV).length=52:=by rw[aj,h.n]
 show b.cells.toArray[55]? =_;rw[cK];show(b.sty.map dV++[.string b.text,b.kv])[52]? =_;rw[ay (by omega),j];rfl
def Bc.l7{b:Bc}(h:ik b.sty):b.arr[56]? =some b.kv:=by
 have j:(b.sty.map dV).length=52:=by rw[aj,h.n]
 show b.cells.toArray[56]? =_;rw[cK];show(b.sty.map dV++[.string b.text,b.kv])[53]? =_;rw[ay (by omega),j];rfl
def Bc.ES{b:Bc}{j:Nat}{d:D}(h:ik b.sty)(A:b.sty[j]? =some d):b.arr[3+j]? =some (dV d):=by
 have B:=(List.getElem?_eq_some_iff.1 A).1;show b.cells.toArray[3+j]? =_;rw[cK,Ji 3 j];show(b.sty.map dV++[.string b.text,b.kv])[j]? =_;rw[an (by simpa using B),List.getElem?_map,A];rfl
def tI:Bc:=⟨0,0,0,Bo,eQ,zn⟩
def kW:tI.Ok:=⟨o5,rfl⟩
def bS{b:Bc}(h:b.Ok):(Tryz.prog.info? 66).map (·.size)=some b.arr.size:=by
 rw[Bc.size h];kernel_rfl
def CB:(Tryz.prog.info? 66).map (fun i=>(i.zero,i.size,i.bytes))=some (some (.agg tI.arr),57,448):=by kernel_rfl
def Ij(w:World){a c d f g:Nat}(hR:aE w a 64 #[zn]):
 Calls tp 190 #[pt a,pt c,pt d,pt f,pt g] w
  fun e b=>e=rQ/\fp a w b/\aE b a 64 #[zn]:=by
 have i:=hR.cell 0;have f0:=hR.free 0;go_enter Tryz.func190,Tryz.ntmps190
 go_wp2_with fail
 go_loopw [5,10] (fun h s wr=>h=true/\s=zQ/\wr=w) (fun _ _ _=>0)
 case atStart=>exact⟨rfl,rfl,rfl⟩
 case round=>
  obtain⟨rfl,rfl,rfl⟩:=hrel;go_wp2_with fail
  refine cP (cL rfl _ _ _) rfl ⟨rfl,fp.setCell wr a zn,hR.put 0 _⟩
def fH{P:Program}{op:Oper}{a:Act}{w:World}{K:Act->World->Prop}{Q:Exit->Act->World->Prop}(f:TypeId)(x y:Operand)(m:op.op=.store f x y)
 (b o:Nat)(cells:Array Value)(n:a.eval x=.pointer (b,o))(p:a.eval y=.agg cells)
 (t:TypeId)(c d post:List Value)(g:aE w b t (c++d++post).toArray)(e:c.length=o)(q:d.length=cells.size)(r:(P.info? f).map (·.size)=some cells.size)(s:cells.all (·.oneCell')=true)
 (h:∀i,aE i b t (c++cells.toList++post).toArray->fp b w i->K (a.put op.dst undef) i):op.wp P a w K Q:=by
 subst e;have l:=ur b t post cells.toList d c w g (by simpa using q);refine abt f x y m b c.length cells n p ?_ r s (h _ l.1 l.2);intro j u;refine⟨?_,g.free _⟩;rw[g.cell];have k:c.length+j<(c++d++post).toArray.size:=by simp;omega
 rw[dE k];rfl
def Sv{w:World}{B n cap g sz:Nat}{e:TypeId}{c b:List Value}(h:w.ownsRow B e sz (g,n+1,cap) (n+1) (c++b))(u:b.length=sz):
 ∃d,c.length=n*sz/\aE w g e (c++b++d).toArray/\n+1<=cap/\B<=g/\∀(k:World) (new:List Value),new.length=sz->aE k g e (c++new++d).toArray->k.ownsRow B e sz (g,n+1,cap) (n+1) (c++new):=by
 have v:=h.1;rcases h.2 with⟨l,_⟩|⟨D,p,a,l,q,x,r,y,E,z⟩
 .cases l
 .injection l with j F A;injection j with j;injection j with j;subst j A;have s:(n+1)*sz=n*sz+sz:=by rw[bp,abk]
  have i:c.length=n*sz:=by rw[aO,u]at v;omega
  have f:a.toList=c++b++a.toList.drop ((n+1)*sz):=by
   conv=>lhs;rw[<-fV ((n+1)*sz) a.toList]
   rw[z]
  have m:a=(c++b++a.toList.drop ((n+1)*sz)).toArray:=by rw[<-f]
  refine⟨a.toList.drop ((n+1)*sz),i,by rw[<-m];exact x,r,q,fun k new t C=>⟨by rw[aO,t,i,s],.inr ⟨g,cap,_,rfl,q,C,r,y,?_,?_⟩⟩⟩
  .have o:a.size=(c++b++a.toList.drop ((n+1)*sz)).length:=by rw[<-f];simp
   simp only[bj,aO]at o|-;omega
  .show(c++new++a.toList.drop ((n+1)*sz)).take ((n+1)*sz)=c++new;rw[xq (by rw[aO,t,i,s])]
