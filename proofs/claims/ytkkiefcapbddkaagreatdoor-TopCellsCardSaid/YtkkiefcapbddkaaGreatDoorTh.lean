/- part of topCells.proved -/
import Derived.Test.YtkkiefcapbddkaaGreatDoorTa
set_option linter.all false
set_option maxRecDepth 1000000
set_option maxHeartbeats 0
noncomputable section
namespace Go.Abs
open Go.RowKit Go.Proofs YtkkiefcapbddkaaGreatDoor Mem ep
def abJ:xg tkT:=⟨⟨by decide,by decide⟩,⟨by decide+kernel,by decide+kernel⟩,rfl,.inl rfl⟩
def aaQ:xg XS:=⟨⟨by decide,by decide⟩,⟨by decide+kernel,by decide+kernel⟩,rfl,.inl rfl⟩
def aaR:xg tkD:=⟨⟨by decide,by decide⟩,⟨by decide+kernel,by decide+kernel⟩,rfl,.inl rfl⟩
def aaS:xg O0:=⟨⟨by decide,by decide⟩,⟨by decide+kernel,by decide+kernel⟩,rfl,.inr rfl⟩
def x8(X:List Tk):Prop:=∃y N,X=y::N/\xg y
def SS{X:List Tk}(a:Good X)(b:x8 X):∀(r:List ByteArray),(∀s∈r,Small s)->Good (iI r++X)/\x8 (iI r++X)
 |[],_=>⟨a,b⟩
 |s::r,h=>by
  obtain⟨c,d⟩:=SS a b r fun x f=>h x (by simp[f]);have e:iI (s::r)++X=tkD::Y2 s::(iI r++X):=by simp[iI]
  rw[e];exact⟨⟨.inl aaR,.inr ⟨⟨h s (by simp),rfl,rfl⟩,d⟩,c⟩,_,_,rfl,aaR⟩
def SU{X:List Tk}(a:Good X)(b:x8 X):∀(R:List (List ByteArray)),(∀r∈R,∀s∈r,Small s)->Good (gU R++X)/\x8 (gU R++X)
 |[],_=>⟨a,b⟩
 |r::R,h=>by
  obtain⟨c,d⟩:=SU a b R fun x f=>h x (by simp[f]);obtain⟨g,i⟩:=SS c d r (h r (by simp));have e:gU (r::R)++X=XS::(iI r++(gU R++X)):=by simp[gU]
  rw[e];exact⟨⟨.inl aaQ,g⟩,_,_,rfl,aaQ⟩
def Pq(R:List (List ByteArray))(h:∀r∈R,∀s∈r,Small s):Good (kJ R):=by
 have a:Good [O0]:=⟨.inl aaS,trivial⟩;obtain⟨b,_⟩:=SU a ⟨_,_,rfl,aaS⟩ R h;exact⟨.inl abJ,b⟩
def wN(x:Int):Nat:=(1+x % 9).toNat
def wd(n:Nat):ByteArray:=⟨(List.replicate n (119:UInt8)).toArray⟩
def Wp(r:List Int):List ByteArray:=(r.take 6).map fun x=>wd (wN x)
def tabW(R:List (List Int)):List (List ByteArray):=(R.take 6).map Wp
def Nb(x:Int):1<=wN x/\wN x<=9:=by unfold wN;omega
def E1(n:Nat):(wd n).data.toList=List.replicate n 119:=by simp[wd]
def x9(n:Nat):(wd n).size=n:=by
 show(List.replicate n (119:UInt8)).toArray.size=n;simp
def SV{n:Nat}(h:0<n):Small (wd n):=by
 refine⟨by rw[x9];exact h,fun u a=>?_⟩;rw[E1]at a;rw[gi a];decide
def aaT(n:Nat):(wd n).toList=List.replicate n 119:=by rw[js];exact E1 n
def uN{R:List (List Int)}{r:List ByteArray}(h:r∈tabW R):∃l,r=Wp l:=by
 obtain⟨l,_,rfl⟩:=List.mem_map.1 h;exact⟨l,rfl⟩
def Ab(R:List (List Int)):∀r∈tabW R,∀s∈r,Small s:=by
 intro r a s b;obtain⟨l,rfl⟩:=uN a;obtain⟨x,_,rfl⟩:=List.mem_map.1 b;exact SV (by have:=Nb x;omega)
def oh(R:List (List Int)):ep.gI (tabW R) where
 rows:=by simp[tabW];omega
 cells:=fun r a=>by obtain⟨l,rfl⟩:=uN a;simp[Wp];omega
 word:=fun r a s b=>by
  obtain⟨l,rfl⟩:=uN a;obtain⟨x,_,rfl⟩:=List.mem_map.1 b;rw[aaT];have:=Nb x;cases c:wN x with
  |zero=>omega
  |succ n=>rfl
def hC(a:List ByteArray):List UInt8:=a.flatMap fun s=>[60,116,100,62]++s.data.toList
def hR(R:List (List ByteArray)):List UInt8:=R.flatMap fun r=>[60,116,114,62]++hC r
def nG(R:List (List ByteArray)):List UInt8:=[60,116,97,98,108,101,62]++(hR R++[60,47,116,97,98,108,101,62])
def toI(u:UInt8):Int:=(u.toNat:Int)
def Wq(s:ByteArray):rX s=s.data.toList.map toI:=by unfold rX;rw[fj];rfl
def aaU(a:List ByteArray):(hC a).map toI=(iI a).flatMap kB:=by
 induction a with
 |nil=>rfl
 |cons s a ih=>
  have b:hC (s::a)=[60,116,100,62]++s.data.toList++hC a:=by simp[hC]
  have c:(iI (s::a)).flatMap kB=kB tkD++(kB (Y2 s)++(iI a).flatMap kB):=by simp[iI]
  rw[b,c,List.map_append,b9,ih,List.append_assoc];have d:kB (Y2 s)=s.data.toList.map toI:=Wq s;rw[d];rfl
def aaV(R:List (List ByteArray)):(hR R).map toI=(gU R).flatMap kB:=by
 induction R with
 |nil=>rfl
 |cons r R ih=>
  have a:hR (r::R)=[60,116,114,62]++hC r++hR R:=by simp[hR]
  have b:(gU (r::R)).flatMap kB=kB XS++((iI r).flatMap kB++(gU R).flatMap kB):=by simp[gU]
  rw[a,b,List.map_append,b9,ih,aaU,bC];rfl
def Wr(R:List (List ByteArray)):(nG R).map toI=(kJ R).flatMap kB:=by
 have a:(kJ R).flatMap kB=kB tkT++((gU R).flatMap kB++kB O0):=by simp[kJ]
 unfold nG;rw[a,List.map_append,b9,aaV];rfl
def K0:∀(a:List ByteArray),(∀s∈a,s.size<=9)->(hC a).length<=13*a.length
 |[],_=>Nat.le_refl _
 |s::a,h=>by
  have ih:=K0 a fun x b=>h x (by simp[b]);have d:=h s (by simp);have c:hC (s::a)=[60,116,100,62]++s.data.toList++hC a:=by simp[hC]
  rw[c,List.length_append,aO,aW];have:s.data.toList.length=s.size:=rfl;simp only[aW,eJ];omega
def K2:∀(R:List (List ByteArray)),(∀r∈R,r.length<=6/\∀s∈r,s.size<=9)->(hR R).length<=82*R.length
 |[],_=>Nat.le_refl _
 |r::R,h=>by
  have ih:=K2 R fun x a=>h x (by simp[a]);have b:=h r (by simp);have d:=K0 r b.2;have c:hR (r::R)=[60,116,114,62]++hC r++hR R:=by simp[hR]
  rw[c,List.length_append,aO,aW];simp only[aW,eJ];omega
def Nc(R:List (List Int)):(nG (tabW R)).length<=600:=by
 have h:=K2 (tabW R) fun r a=>⟨(oh R).cells r a,fun s b=>by
  obtain⟨l,rfl⟩:=uN a;obtain⟨x,_,rfl⟩:=List.mem_map.1 b;rw[x9];exact(Nb x).2⟩
 have c:=(oh R).rows;unfold nG;simp only[aO,aW,eJ];omega
def SW(u:UInt8):Prop:=0<u.toNat/\u.toNat<128/\u.toNat≠13/\u.toNat≠10
def Pr(R:List (List Int)):∀u∈nG (tabW R),SW u:=by
 have c:∀r∈tabW R,∀u∈hC r,SW u:=by
  intro r b u a;obtain⟨s,d,a⟩:=List.mem_flatMap.1 a;rcases aJ.1 a with a|a
  .simp only[aw,bB,eA]at a;rcases a with rfl|rfl|rfl|rfl<;>exact⟨by decide,by decide,by decide,by decide⟩
  .have:=(Ab R r b s d).2 u a;exact⟨by omega,by omega,by omega,by omega⟩
 intro u a;unfold nG at a;rcases aJ.1 a with a|a
 .simp only[aw,bB,eA]at a;rcases a with rfl|rfl|rfl|rfl|rfl|rfl|rfl<;>exact⟨by decide,by decide,by decide,by decide⟩
 rcases aJ.1 a with a|a
 .obtain⟨r,b,a⟩:=List.mem_flatMap.1 a;rcases aJ.1 a with a|a
  .simp only[aw,bB,eA]at a;rcases a with rfl|rfl|rfl|rfl<;>exact⟨by decide,by decide,by decide,by decide⟩
  .exact c r b u a
 .simp only[aw,bB,eA]at a;rcases a with rfl|rfl|rfl|rfl|rfl|rfl|rfl|rfl<;>exact⟨by decide,by decide,by decide,by decide⟩
