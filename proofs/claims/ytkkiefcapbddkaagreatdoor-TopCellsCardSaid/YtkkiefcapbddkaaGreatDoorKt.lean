/- part of topCells.proved -/
import Derived.Test.YtkkiefcapbddkaaGreatDoorKb
set_option linter.all false
set_option maxRecDepth 1000000
set_option maxHeartbeats 0
noncomputable section
namespace Go.Proofs.YtkkiefcapbddkaaGreatDoor
namespace Num
structure Fl where
 right:Bool
 x:Int
 y:Int
 w:Int
 h:Int
deriving DecidableEq
def acG(w h:Int):Bool:=decide (w<=0)||decide (h<=0)
def Fl.bot(f:Fl):Int:=add f.y f.h
def Fl.fin(f:Fl):Int:=add f.x f.w
def Fl.S4(f:Fl)(y:Int):Bool:= !acG f.w f.h&&decide (f.y<=y)&&decide (y<f.bot)
def K8(y:Int):List Fl->Int->Int->Int×Int
 |[],a,b=>(a,max a b)
 |f::t,a,b=>if f.S4 y=false then K8 y t a b else if f.right=true then K8 y t a (min b f.x)else K8 y t (max a f.fin) b
def next(y:Int):List Fl->Int->Bool->Int×Bool
 |[],n,m=>(n,m)
 |f::t,n,m=>if f.S4 y=true/\(m=false\/f.bot<n)then next y t f.bot true else next y t n m
def later(l:List Fl)(y:Int):Nat:=(l.filter fun f=>decide (y<f.bot)).length
def aaW(l:List Fl)(left right w:Int):Nat->Int->Int
 |0,y=>y
 |k+1,y=>if sub (K8 y l left right).2 (K8 y l left right).1<w/\(next y l 0 false).2=true then aaW l left right w k (next y l 0 false).1 else y
def from_(l:List Fl)(y:Int):Int:=match l.getLast? with|none=>sat y|some f=>max (sat y) f.y
def place(l:List Fl)(left right:Int)(a:Bool)(w h y:Int):Fl:=
 let t:=aaW l left right (max w 0) (later l (from_ l y)) (from_ l y)
 ⟨a,if a=true then sub (K8 t l left right).2 (max w 0)else(K8 t l left right).1,t,max w 0,max h 0⟩
end Num
namespace Num
structure Nd where
 least:Int
 eY:Int
deriving DecidableEq
def Nd.cells(n:Nd):List Value:=[n.least,n.eY]
def lp:Nd:=⟨0,0⟩
def merge(o n:Nd):Nd:=⟨max o.least (sat n.least),max o.eY (sat n.eY)⟩
def Am(out:List Nd)(k:Nat)(n:Nd):List Nd:=if k=out.length then out++[merge lp n]else out.set k (merge (out.getD k lp) n)
def II:Nat->List Nd->List Nd->List Nd
 |_,out,[]=>out
 |k,out,n::r=>II (k+1) (Am out k n) r
def Ap:List Nd->List (List Nd)->List Nd
 |out,[]=>out
 |out,r::t=>Ap (II 0 out r) t
def fin(o:Nd):Nd:=⟨o.least,max o.eY o.least⟩
def S5(l:List (List Nd)):List Nd:=(Ap [] l).map fin
def IJ{out:List Nd}{k:Nat}{n:Nd}(a:k<=out.length):(Am out k n).length=max out.length (k+1):=by
 unfold Am;split
 .simp;omega
 .simp;omega
def Bet(m:Int)(out:List Nd):Prop:=∀i,0<=(out.getD i lp).least/\(out.getD i lp).least<=m/\0<=(out.getD i lp).eY/\(out.getD i lp).eY<=m
def wgt(n:Nd):Int:=min ((n.eY-n.least+63)/64) 65536
def fI(l:List Nd):List Int:=l.map (·.least)
def iC(l:List Nd):List Int:=l.map (·.eY)
def IK(l:List Nd):List Int:=l.map wgt
def pV(n:Nat):List Int:=List.replicate n 1
def E6(room:Int)(l:List Nd)(sure:Bool):List Int:=
 if room<=cB (fI l) l.length then fI l
 else if room<=cB (iC l) l.length then n9 (fI l) (ji (sub room (cB (fI l) l.length)) (IK l))
 else if sure then n9 (iC l) (ji (sub room (cB (iC l) l.length)) (pV l.length))
 else iC l
end Num
namespace Num
def K9(l:List Nd)(i:Nat):(fI l).getD i 0=(l.getD i lp).least:=by
 simp only[fI,ah,ai];cases l[i]? <;>rfl
def Py(l:List Nd)(i:Nat):(iC l).getD i 0=(l.getD i lp).eY:=by
 simp only[iC,ah,ai];cases l[i]? <;>rfl
def nJ(l:List Nd):(fI l).length=l.length:=by simp[fI]
def pd(l:List Nd):(iC l).length=l.length:=by simp[iC]
def qT(l:List Nd):(IK l).length=l.length:=by simp[IK]
def qU(n:Nat):(pV n).length=n:=by simp[pV]
structure acH(room:Int)(l:List Nd)(sure:Bool)(W:List Int):Prop where
 len:W.length=l.length
 qa:∀i,i<l.length->(l.getD i lp).least<=W.getD i 0/\W.getD i 0<=8589934592
 sum:OR W l.length=(if room<=OR (fI l) l.length then OR (fI l) l.length else if room<=OR (iC l) l.length\/sure=true/\0<l.length then room else OR (iC l) l.length)
end Num
end Go.Proofs.YtkkiefcapbddkaaGreatDoor
namespace Go.Proofs.YtkkiefcapbddkaaGreatDoor
open Go.RowKit Num Mem Opn Ord
variable{B a k n sz:Nat}{A:Option Addr}{e:TypeId}{v:Value}{w:World}
section
namespace Mem
structure lG{α:Type}(w:World)(B:Nat)(A:Option Addr)(sz:Nat)(fl:α->List Value)(vs:List Value)(ls:List (List α)):Prop where
 len:vs.length=ls.length
 seg:lV w B A vs
 row:∀(i:Nat) (r:List α),ls[i]? =some r->∃A' c,vs[i]? =some (Value.slice A' r.length c)/\r.length<=c/\dU w B A' sz fl r
def lG.below{α:Type}{w w':World}{B:Nat}{A:Option Addr}{sz:Nat}{fl:α->List Value}{vs:List Value}{j:List (List α)}(h:lG w B A sz fl vs j)(C:Below B w w'):lG w' B A sz fl vs j:=
 ⟨h.len,h.seg.below C,fun i r E=>by obtain⟨H,c,I,J,L⟩:=h.row i r E;exact⟨H,c,I,J,L.below C⟩⟩
def lG.more{α:Type}{w:World}{B j:Nat}{A:Option Addr}{sz:Nat}{fl:α->List Value}{vs:List Value}{C:List (List α)}(h:lG w B A sz fl vs C)(E:B<=j):lG w j A sz fl vs C:=
 ⟨h.len,h.seg.more E,fun i r H=>by obtain⟨I,c,J,L,M⟩:=h.row i r H;exact⟨I,c,J,L,M.more E⟩⟩
def lG.at_{α:Type}{w:World}{B:Nat}{A:Option Addr}{sz:Nat}{fl:α->List Value}{vs:List Value}{C:List (List α)}(h:lG w B A sz fl vs C){k:Nat}(H:k<C.length):
 ∃b j E c r,A=some ⟨b,j,none⟩/\b<B/\Hid (C[k]? =some r)/\w.cell? ⟨b,j+k,none⟩=some (.slice E r.length c)/\r.length<=c/\dU w B E sz fl r:=by
 obtain⟨b,j,e,I,J⟩:=lV.at_ h.seg (k:=k) (by rw[h.len];exact H);obtain⟨E,c,L,M,N⟩:=h.row k C[k] (List.getElem?_eq_getElem H);exact⟨b,j,E,c,C[k],e,I,aU (af H),J.trans L,M,N⟩
structure kE{α:Type}(w:World)(t:TypeId)(sz:Nat)(fl:α->List Value)(vs:List Value)(D:List (List α)):Prop where
 len:vs.length=D.length
 row:∀(i:Nat) (r:List α),D[i]? =some r->∃A' c,vs[i]? =some (Value.slice A' r.length c)/\r.length<=c/\(r≠[]->∃g cs,A'=some ⟨g,0,none⟩/\aE w g t cs/\cs.toList.take (r.length*sz)=r.flatMap fl)
section
variable{α:Type}{w w':World}{t:TypeId}{sz:Nat}{fl:α->List Value}{vs:List Value}{D:List (List α)}
def kE.nil(w:World)(t:TypeId)(sz:Nat)(fl:α->List Value):kE w t sz fl [] []:=⟨rfl,fun i r h=>by simp at h⟩
def kE.map(h:kE w t sz fl vs D)(A:∀g j,aE w g t j->aE w' g t j):kE w' t sz fl vs D:=
 ⟨h.len,fun i r B=>by
  obtain⟨C,c,E,H,I⟩:=h.row i r B;refine⟨C,c,E,H,fun J=>?_⟩;obtain⟨g,j,e,L,M⟩:=I J;exact⟨g,j,e,A g j L,M⟩⟩
def kE.below(h:kE w t sz fl vs D)(A:Below w w w'):kE w' t sz fl vs D:=h.map fun g B j=>j.below A j.lt
def kE.grown{j n z:Nat}{e:TypeId}{v:Value}{B:List Value}(h:kE w t sz fl vs D)(C:w.ownsRow j e z v n B)(E:w.grownBy w' v.ownBlock)(A:t≠e):kE w' t sz fl vs D:=
 h.map fun g I H=>H.grown C E A
def kE.push{c:Nat}{r:List α}(h:kE w t sz fl vs D)(N:w.ownsRow B t sz (.slice A n c) n (r.flatMap fl))(E:r.length=n):kE w t sz fl (vs++[Value.slice A n c]) (D++[r]):=by
 refine⟨by simp[h.len],fun i q hq=>?_⟩;rw[AW]at hq|-;by_cases C:i<D.length
 .rw[aS C]at hq;rw[aS (by rw[h.len];exact C)];exact h.row i q hq
 .rw[aI C]at hq;rw[aI (by rw[h.len];exact C),h.len];have O:i-D.length=0:=by
   have:=(aa.1 hq).1;simp at this;omega
  rw[O]at hq|-;have:r=q:=by simpa using hq
  subst this;rcases N.2 with⟨H,V⟩|⟨g,cap,I,H,W,P,Q,L,R,j⟩
  .injection H with J S M;subst J;refine⟨none,c,by simp[E],by omega,fun T=>absurd (lX.1 (by omega)) T⟩
  .injection H with J S M;subst J M;refine⟨_,_,by rw[E];rfl,by omega,fun _=>⟨g,I,rfl,P,by rw[E];exact j⟩⟩
def kE.aaX{c:Nat}(h:kE w t sz fl vs D)(M:w.ownsRow B e 1 (.slice A n c) n vs)(C:∀x,(fl x).length=sz):lG w w A sz fl vs D:=by
 refine⟨h.len,?_,fun i r N=>?_⟩
 .obtain⟨I,J,E,O⟩:=VH M;injection E with P;subst P;exact O
 .obtain⟨I,J,Q,R,S⟩:=h.row i r N;refine⟨I,J,Q,R,fun T=>?_⟩;obtain⟨g,X,rfl,L,V⟩:=S T;refine⟨g,0,rfl,L.lt,fun k x W j v E=>?_⟩;have hq:=flat_get C W E;rw[<-V]at hq;rw[bc,L.cell,<-Array.getElem?_toList];have H:=(List.getElem?_eq_some_iff.1 hq).1;rw[aN]at H;rw[bU (by omega)]at hq;exact hq
end
end Mem
namespace Num
def fw(n:Int):Int:=if n<0 then-((-(n+1))% 16777216)else n % 16777216
def nd(x:Nd):Nd:=⟨fw x.least,fw x.eY⟩
end Num
def CU(x:Nd):x.cells.length=2:=rfl
def Pz:(Tryz.prog.info? 399).map (fun i=>(i.zero,i.size,i.bytes))=some (some (.agg #[zQ,zQ]),2,16):=by kernel_rfl
def S6{w:World}{g:Nat}{t:TypeId}{b:Array Value}{a:List Value}(c:aE w g t b)(d:b.toList=a):∀j u,a[j]? =some u->w.cell? ((g:Addr).add j)=some u:=by
 intro j u e;rw[Addr.add_mid,c.cell,Nat.zero_add,<-az,d,e]
def CV{α:Type}{l:List α}{x:α}(h:l[k]? =some x):l.take (k+1)=l.take k++[x]:=by
 have a:=(List.getElem?_eq_some_iff.1 h).1;have b:=(List.getElem?_eq_some_iff.1 h).2;rw[List.take_succ_eq_append_getElem a,b]
def Ni{w:World}{b:Nat}{l:List Nd}(h:dU w B (b,a) 2 Nd.cells l){x:Nd}(c:l[k]? =some x):
 w.cell? (b,a+k*2)=x.least/\w.cell? (b,a+k*2+1)=x.eY:=by
 obtain⟨j,d,e,_,f⟩:=h (by rintro rfl;simp at c);injection e with e;injection e with g i m;subst g i;exact⟨f k x c 0 _ rfl,f k x c 1 _ rfl⟩
end
namespace Mem
def S7{b:Nat}{d:List Value}(h:w.ownsRow b e sz v n d)(f:a<=b):w.ownsRow a e sz v n d:=
 ⟨h.1,h.2.imp id fun⟨g,cap,c,i,j,k⟩=>⟨g,cap,c,i,Nat.le_trans f j,k⟩⟩
def CW{d:List Value}(h:w.ownsRow a e sz v n d)(j:0<n):∃g cap,v=.slice (some ⟨g,0,none⟩) n cap/\a<=g/\n<=cap/\g<w.heap.size:=by
 rcases h.2 with⟨rfl,k⟩|⟨g,cap,b,rfl,f,i,c,_⟩
 .omega
 .exact⟨g,cap,rfl,f,c,aE.lt (t:=e) (cs:=b) i⟩
def La{d:Nat}{t:TypeId}{j:List Value}{f:Array Value}(h:w.ownsRow a e sz v n j)(k:aE w d t f)(o:f.size<n*sz):v.ownBlock≠some d:=by
 intro hq;rcases h.2 with⟨rfl,i⟩|⟨g,cap,l,rfl,p,b,c,_,m,_⟩
 .simp[Value.ownBlock]at hq
 .simp only[Value.ownBlock,aK]at hq;subst hq;rw[k]at b;injection b with b;injection b with i _;subst i;have:=aC sz c;omega
end Mem
namespace Num
def ext(out:List Nd)(k:Nat):List Nd:=if k=out.length then out++[lp]else out
def Lb{out:List Nd}(a:k<=out.length):k<(ext out k).length:=by
 unfold ext;split
 .simp;omega
 .omega
def S8{out:List Nd}{n:Nd}(a:k<=out.length):Am out k n=(ext out k).set k (merge ((ext out k).getD k lp) n):=by
 unfold Am ext;split
 .rename_i h;subst h;simp[ah,List.set_append]
 .rfl
def CX(l:List Nd)(a:k<l.length)(y:Nd):(l.set k y).flatMap Nd.cells=((l.flatMap Nd.cells).set (k*2) y.least).set (k*2+1) y.eY:=by
 induction l generalizing k with
 |nil=>simp at a
 |cons x l ih=>
  cases k with
  |zero=>simp[Nd.cells]
  |succ k=>
   simp only[ef,bR];rw[ih (by simpa using a)];rw[show(k+1)*2=k*2+1+1 by omega];simp[Nd.cells]
def Nk{l:List Nd}(a:k<l.length):(l.flatMap Nd.cells)[k*2]? =(l.getD k lp).least/\(l.flatMap Nd.cells)[k*2+1]? =(l.getD k lp).eY:=by
 have b:=List.getElem?_eq_getElem a;have e:l.getD k lp=l[k]:=by simp[ah,a]
 rw[e];exact⟨flat_get CU b (j:=0) rfl,flat_get CU b (j:=1) rfl⟩
end Num
def S9{α:Type}{l:List α}{i:Nat}{v:α}(h:l[i]? =some v):l.set i v=l:=by
 have a:=(List.getElem?_eq_some_iff.1 h).1;have b:=(List.getElem?_eq_some_iff.1 h).2;rw[<-b];exact List.set_getElem_self a
def Lc(a b:Int):Array Value:=#[a,b]
def uU(a b:Int):(Tryz.prog.info? 399).map (·.size)=some (Lc a b).size:=by kernel_rfl
def qJ(a b:Int):(Lc a b).all (·.oneCell')=true:=by simp[Lc,Value.oneCell']
def Aq{l:List Nd}(h:dU w B A 2 Nd.cells l)(c:k<l.length):
 ∃b a x,A=some ⟨b,a,none⟩/\b<B/\Hid (l[k]? =some x)/\w.rangeAt b (a+k*2) (Lc x.least x.eY).toList:=by
 obtain⟨b,a,e,f,g⟩:=h (by rintro rfl;simp at c);have d:=List.getElem?_eq_getElem c;exact⟨b,a,l[k],e,f,aU d,fun j v i=>g k _ d j v i⟩
def wj{α:Type}{l:List α}{x:α}(h:l[k]? =some x):l.drop k=x::l.drop (k+1):=by
 have a:=(List.getElem?_eq_some_iff.1 h).1;have b:=(List.getElem?_eq_some_iff.1 h).2;rw[bQ a,b]
def sq(l:List Nd)(k:Nat):List Nd:=(l.take k).map fin++l.drop k
def IL(l:List Nd)(k:Nat):(sq l k).length=l.length:=by simp[sq];omega
def Ta{l:List Nd}(a:k<l.length):(sq l k).getD k lp=l.getD k lp:=by
 simp only[sq,ah];rw[ay (by simp;omega),bd]
 congr 2
 simp;omega
def Tb{l:List Nd}(a:k<l.length):(sq l k).set k (fin (l.getD k lp))=sq l (k+1):=by
 have b:=List.getElem?_eq_getElem a;have e:l.getD k lp=l[k]:=by simp[ah,a]
 unfold sq;rw[e,wj b,CV b,List.set_append_right _ _ (by simp;omega),aj,aN,show k-min k l.length=0 by omega];simp only[rm,b9,bV,wP,bC,et,dt]
def Tc(l:List Nd):sq l l.length=l.map fin:=by simp[sq]
def BF(z:List (List Nd))(vs:List Value)(A:Option Addr)(c:Nat)(w:World)(hl:z.length<=4611686018427387904)(hA:lG w w A 2 Nd.cells vs z)(hw:∀r∈z,r.length<=1000):
 Calls tp 200 #[.slice A z.length c] w fun e w'=>∃v,e=.returned v/\Below w w w'/\w'.ownsRow w 399 2 v (S5 z).length ((S5 z).flatMap Nd.cells):=by
 obtain⟨i1,ww,Do,H1,In⟩:=info_parts Pz;obtain⟨T,hT⟩:∃T,Ap [] z=T:=⟨_,rfl⟩;have HT:=aU hT;have UV:S5 z=T.map fin:=by rw[<-hT];rfl
 rw[UV];replace hw:=aU hw;go_enter Tryz.func200,Tryz.ntmps200
 go_wp2_with fail
 go_loopw [3,11] (fun s3 WF wr=>∃(k:Nat) (D:List Nd),k<=z.length/\WF=k/\D.length<=1000/\Hid (Ap D (z.drop k)=T)/\(D.length=0->s3=zn)/\wr.ownsRow w 399 2 s3 D.length (D.flatMap Nd.cells)/\Below w w wr) (fun _ i _=>z.length-(intOf i).toNat)
 case atStart=>exact⟨0,[],aM _,rfl,by simp,HT,fun _=>rfl,dl _ _ _ _,Below.refl _ _⟩
 case round=>
  obtain⟨k,D,hk,rfl,WP,HD,d,f,l⟩:=hrel;replace d:=aU d;by_cases hlt:k<z.length
  .obtain⟨b,off,A',c',r,rfl,hb,HR,cr,hrc,hRr⟩:=lG.at_ (hA.below l) hlt;have hrl:=hw.out r (List.mem_of_getElem? HR.out);have i8:Hid (Ap (II 0 D r) (z.drop (k+1))=T):=aU (by rw[<-HD.out,wj HR.out];rfl);obtain⟨M,hM⟩:∃M,II 0 D r=M:=⟨_,rfl⟩;rw[hM]at i8;have HM:=aU hM;obtain⟨wo,rfl⟩:=iG (wr:World);go_wp2_with fail
   go_loopw [3,17] (fun s3 s17 wr=>∃(j:Nat) (E:List Nd),j<=r.length/\s17=j/\j<=E.length/\E.length<=1000/\Hid (II j E (r.drop j)=M)/\(E.length=0->s3=zn)/\wr.ownsRow w 399 2 s3 E.length (E.flatMap Nd.cells)/\Below w w wr/\Below w wo wr) (fun _ i _=>r.length-(intOf i).toNat)
   case atStart=>exact⟨0,D,Nat.zero_le _,rfl,Nat.zero_le _,WP,HM,d.out,f,l,Below.refl _ _⟩
   case round=>
    obtain⟨j,E,hj,rfl,a5,hEl,HE,d,f,l,m⟩:=hrel;have hz:=l.size;obtain⟨A3,c3,rfl,hc3⟩:=aV f;replace d:=aU d;by_cases s:j<r.length
    .obtain⟨bi,oi,x,rfl,hbi,HX,jp⟩:=Aq (hRr.below m) s;have HE2:Hid (II (j+1) (Am E j x) (r.drop (j+1))=M):=aU (by rw[<-HE.out,wj HX.out];rfl);clear HE;go_wp2_with (refine aX 399 rfl ?_)
     refine⟨bY rfl 399 _ rfl bi (oi+j*2) rfl (Lc x.least x.eY) _ jp Tryz.underlying399 rfl (uU _ _) ?_⟩;go_wp2_with (refine aX 399 rfl ?_)
     refine⟨dK (Lc x.least x.eY) rfl rfl rfl rfl (aE.new _ _ _) rfl (uU _ _) (qJ _ _) ?_⟩;intro U N hC;have O:=((Below.refl wr wr).alloc (ae _) _).trans (hC.below (Nat.le_refl _));have u:=ca f O;have y:=l.trans (O.mono hz);have B:=m.trans (O.mono hz);have hgx:=N.lt;have a:∀q,(Value.slice A3 E.length c3).ownBlock=some q->q<wr.heap.size:=fun q hq=>YT f hq;replace a:=aU a;have hzz:=O.size;clear jp hC O l m f;generalize hgxe:wr.heap.size=C at*;obtain⟨qb,V⟩:∃qb,(j==E.length)=qb:=⟨_,rfl⟩;have lw:((j:Int)==(E.length:Int))=qb:=by rw[<-V,Bool.eq_iff_iff,fZ,fZ];omega
     go_upto_if 25 with fail
     go_cut [3] (fun s3 wx=>∃v,v=s3/\wx.ownsRow w 399 2 v (ext E j).length ((ext E j).flatMap Nd.cells)/\aE wx C 399 (Lc x.least x.eY)/\Below w w wx/\Below w wo wx/\v.ownBlock≠some C)
     case first=>
      by_cases G:j=E.length
      .have a9:Hid (ext E j=E++[lp]):=aU (by unfold ext;rw[aS G]);have em:qb=true:=by rw[<-V];simpa using G
       subst em;obtain⟨B',P,hb2',mp,Q⟩:∃B',w.heap.size<=B'/\B'<=U.heap.size/\(E.length=0->C<B')/\U.ownsRow B' 399 2 (.slice A3 E.length c3) E.length (E.flatMap Nd.cells):=by
        rcases cz E.length with h0|h0
        .have hE0:E=[]:=List.length_eq_zero_iff.1 h0;refine⟨U.heap.size,y.size,Nat.le_refl _,fun _=>hgx,?_⟩;rw[d.out h0,h0,hE0];exact dl _ _ _ _
        .exact⟨w.heap.size,Nat.le_refl _,y.size,fun h=>by omega,u⟩
       have F:=Q.alloc (.cells #[zQ,zQ] 399);have eq:Below U U (U.alloc (.cells #[zQ,zQ] 399)):=(Below.refl U U).alloc (ae _) _;have ge:=N.alloc (.cells #[zQ,zQ] 399);have am:=y.size;clear Q;replace G:=aU G;go_wp2_with (refine cR _ _ _ _ rfl ?_)
       refine⟨eC _ rfl _ _ 314 rfl B' 399 i1 (.agg #[zQ,zQ]) 2 16 Tryz.underlying314 ww Do H1 In rfl (by decide) (.slice A3 E.length c3) _ _ rfl F U 1 1 [zQ,zQ] rfl rfl (S6 (aE.new U 399 #[zQ,zQ]) rfl) (by simp[Value.oneCell']) (by unfold maxLen;omega) (by omega) (by simp;omega) ?_⟩;intro v4 w4 W Y _;have n6:=(Y.block C ge.lt (fun hq=>by have:=a.out C hq.symm;omega)).trans ge;have g7:v4.ownBlock≠some C:=by
        rcases cz E.length with h0|h0
        .intro hq;have h1:=mp h0;have h2:=(W.lt C hq).1;omega
        .exact La W n6 (by simp[Lc];omega)
       have ho5:w4.ownsRow w 399 2 v4 (ext E j).length ((ext E j).flatMap Nd.cells):=by
        rw[a9.out];have:=S7 W P;simpa[Nd.cells,lp]using this
       have hB4:=(y.trans (eq.mono am)).trans ((eo F Y (by simp;omega)).mono P);have pm:=(B.trans (eq.mono am)).trans ((eo F Y (by simp;omega)).mono P);clear F eq ge Y W N u y B;go_wp2_with fail
       go_meet
       exact⟨_,rfl,ho5,n6,hB4,pm,g7⟩
      .have a9:Hid (ext E j=E):=aU (by unfold ext;rw[aI G]);have em:qb=false:=by rw[<-V];simpa using G
       subst em;go_wp2_with fail
       go_meet
       exact⟨_,rfl,by rw[a9.out];exact u,N,y,B,fun hq=>by have:=a.out C hq;omega⟩
     case rest=>
     clear N u y B a d V lw;obtain⟨v,hvs,f,N,l,m,g7⟩:=hcut;have R:=Lb a5;have g8:=IJ (n:=x) a5;have ii:=aU (S8 (n:=x) a5);obtain⟨g,cap,rfl,H,hnc,hgl⟩:=CW f (by omega);subst hvs;have qr:C≠g:=by intro e;exact g7 (by simp[Value.ownBlock,e])
     generalize ext E j=X at*;obtain⟨f1,f2⟩:=Nk R;obtain⟨o,I⟩:∃o,X.getD j lp=o:=⟨_,rfl⟩;rw[I]at f1 f2 ii;have c0:=(f.cellAt (j*2) (by omega)).trans f1;have z0:=f.frozenAt (j*2);have x0:=N.cell 0;have t:(fun Z:World=>Z.cell? (g,j*2)=o.least/\Z.cell? C=x.least/\Z.frozen? (g,j*2)=false) wc.drew:=⟨c0,x0,z0⟩;have io:Hid ((Am E j x).flatMap Nd.cells=((X.flatMap Nd.cells).set (j*2) (.int .i64 (max o.least (sat x.least)))).set (j*2+1) (.int .i64 (max o.eY (sat x.eY)))):=aU (by rw[ii.out,CX X R];rfl);have HXL:Hid ((Am E j x).length=X.length):=aU (by rw[ii.out,List.length_set]);replace g8:=aU g8;clear c0 z0 x0 I;go_upto_region 10 with fail
     refine a8 ?_;refine dW (S:=fun Z:World=>Z.cell? (g,j*2)=o.least/\Z.cell? C=x.least/\Z.frozen? (g,j*2)=false) 13 [1,1,1,1,1,1,1,1,1,1,1,1,1,0] (by kernel_rfl) (fun _ _ _ _ _ h=>h) (t) (fun rg=>?_);simp only[osq,fL,aF,ap];iterate 9 (apply cU;rfl;(intro w J;go_simp;try(with_reducible rfl));simp only[Act.put,zA,zB,zC])
     (refine Ci 197 #[x.least] rfl (fun _ _=>by kernel_rfl) (fun w J=>rN _ _) ?_;simp only[Act.put,zA,zB,zC])
     iterate 3 (apply cU;rfl;(intro w J;go_simp;try(with_reducible rfl));simp only[Act.put,zA,zB,zC])
     refine lW rfl rfl (fun K hK=>?_);obtain⟨un,ut,wl⟩:=t;go_simp
     refine hK.out _ _ ?_;clear hK K;refine fA (a7 ?_);go_upto_region 11 with fail
     have L:=(fS f).stored (j*2) (.int .i64 (max o.least (sat x.least)));refine bM (fun Z=>Z.ownsRow w 399 2 (g,X.length,cap) X.length ((X.flatMap Nd.cells).set (j*2) (.int .i64 (max o.least (sat x.least))))/\aE Z C 399 (Lc x.least x.eY)/\Below w w Z/\Below w wo Z) ⟨L.1,(N.drew).iD (p:=(g,j*2)) qr _,(l.drew).setCell H _,(m.drew).setCell H _⟩ ?_;clear f N l m L;rintro wd ⟨f,N,l,m⟩;have c1:wd.cell? (g,j*2+1)=o.eY:=by
      rw[f.cellAt (j*2+1) (by omega),List.getElem?_set_ne (by omega)];exact f2
     have z1:=f.frozenAt (j*2+1);have x1:=N.cell 1;have t:(fun Z:World=>Z.cell? (g,j*2+1)=o.eY/\Z.cell? (C,1)=x.eY/\Z.frozen? (g,j*2+1)=false) wd.drew:=⟨c1,x1,z1⟩;clear c1 z1 x1;refine a8 ?_;refine dW (S:=fun Z:World=>Z.cell? (g,j*2+1)=o.eY/\Z.cell? (C,1)=x.eY/\Z.frozen? (g,j*2+1)=false) 13 [1,1,1,1,1,1,1,1,1,1,1,1,1,0] (by kernel_rfl) (fun _ _ _ _ _ h=>h) (t) (fun rg=>?_);simp only[osq,fL,aF,ap];iterate 9 (apply cU;rfl;(intro w J;go_simp;try(with_reducible rfl));simp only[Act.put,zA,zB,zC])
     (refine Ci 197 #[x.eY] rfl (fun _ _=>by kernel_rfl) (fun w J=>rN _ _) ?_;simp only[Act.put,zA,zB,zC])
     iterate 3 (apply cU;rfl;(intro w J;go_simp;try(with_reducible rfl));simp only[Act.put,zA,zB,zC])
     refine lW rfl rfl (fun K hK=>?_);obtain⟨un,ut,wl⟩:=t;go_simp
     refine hK.out _ _ ?_;clear hK K;refine fA (a7 ?_);have L:=(fS f).stored (j*2+1) (.int .i64 (max o.eY (sat x.eY)));have ip:=(l.drew).setCell (p:=(g,j*2+1)) H (.int .i64 (max o.eY (sat x.eY)));have wn:=(m.drew).setCell (p:=(g,j*2+1)) H (.int .i64 (max o.eY (sat x.eY)));clear f N l m;go_wp2_with fail
     go_roundw
     case rel=>
      have hp:=g8.out;refine⟨j+1,Am E j x,by omega,by go_num,by omega,by omega,HE2,fun h=>by omega,?_,ip,wn⟩;rw[io.out,HXL.out];exact L.1
     case measure=>simp[intOf];omega
    .obtain rfl:j=r.length:=by omega
     have HEM:Hid (E=M):=aU (by have:=HE.out;rw[gZ]at this;exact this);go_wp2_with fail
     go_roundw
     case rel=>exact⟨k+1,E,by omega,by go_num,hEl,by rw[HEM.out];exact i8,d.out,f,l⟩
     case measure=>simp[intOf];omega
  .obtain rfl:k=z.length:=by omega
   have HDT:D=T:=by have:=HD.out;rw[gZ]at this;exact this
   subst HDT;have HFA:=aU (Tc D);obtain⟨A3,c3,rfl,hc3⟩:=aV f;have u:wr.ownsRow w 399 2 (.slice A3 D.length c3) D.length ((sq D 0).flatMap Nd.cells):=by simpa[sq]using f
   clear f d HD;go_wp2_with fail
   go_loopw [60] (fun s60 wr=>∃j:Nat,j<=D.length/\s60=j/\wr.ownsRow w 399 2 (.slice A3 D.length c3) D.length ((sq D j).flatMap Nd.cells)/\Below w w wr) (fun i _=>D.length-(intOf i).toNat)
   case atStart=>exact⟨0,aM _,rfl,u,l⟩
   case round=>
    clear u l;obtain⟨j,hj,rfl,f,l⟩:=hrel;by_cases s:j<D.length
    .obtain⟨g,cap,hv,H,hnc,hgl⟩:=CW f (by omega);injection hv with a1 a2 a3;subst a1 a3;have R:j<(sq D j).length:=by rw[IL];exact s
     obtain⟨f1,f2⟩:=Nk R;rw[Ta s]at f1 f2;obtain⟨o,I⟩:∃o,D.getD j lp=o:=⟨_,rfl⟩;rw[I]at f1 f2;have c0:=(f.cellAt (j*2) (by omega)).trans f1;have c1:=(f.cellAt (j*2+1) (by omega)).trans f2;have z1:=f.frozenAt (j*2+1);have io:Hid ((sq D (j+1)).flatMap Nd.cells=((sq D j).flatMap Nd.cells).set (j*2+1) (.int .i64 (max o.eY o.least))):=aU (by
      rw[<-Tb s,I,CX _ R];show((List.flatMap Nd.cells (sq D j)).set (j*2) o.least).set (j*2+1) (.int .i64 (max o.eY o.least))=_
      congr 1
      exact S9 f1)
     have t:(fun Z:World=>Z.cell? (g,j*2)=o.least/\Z.cell? (g,j*2+1)=o.eY/\Z.frozen? (g,j*2+1)=false) wr.drew:=⟨c0,c1,z1⟩;clear c0 c1 z1 I;go_upto_region 17 with fail
     refine a8 ?_;refine dW (S:=fun Z:World=>Z.cell? (g,j*2)=o.least/\Z.cell? (g,j*2+1)=o.eY/\Z.frozen? (g,j*2+1)=false) 15 [1,1,1,1,1,1,1,1,1,1,1,1,1,1,1,0] (by kernel_rfl) (fun _ _ _ _ _ h=>h) (t) (fun rg=>?_);simp only[osq,fL,aF,ap];iterate 15 (apply cU;rfl;(intro w J;go_simp;try(with_reducible rfl));simp only[Act.put,zA,zB,zC])
     refine lW rfl rfl (fun K hK=>?_);obtain⟨un,ut,wl⟩:=t;go_simp
     refine hK.out _ _ ?_;clear hK K;refine fA (a7 ?_);have L:=(fS f).stored (j*2+1) (.int .i64 (max o.eY o.least));have ip:=(l.drew).setCell (p:=(g,j*2+1)) H (.int .i64 (max o.eY o.least));clear f l;go_wp2_with fail
     go_roundw
     case rel=>exact⟨j+1,by omega,by go_num,by rw[io.out];exact L.1,ip⟩
     case measure=>simp[intOf];omega
    .obtain rfl:j=D.length:=by omega
     go_wp2_with fail
     go_ret
     rw[HFA.out]at f;exact⟨_,rfl,l,by rw[aj];exact f⟩
namespace Num
def Au(f:Nd->Int)(l:List Nd):upto (fun i=>f (l.getD i lp)) l.length l.length=l.map f:=by
 apply kL
 .simp[upto]
 .intro i a b;simp[upto]at a|-;simp[a]
end Num
def xi(g m:Nat)(a b:List Int)(w:World)(c:a.length=b.length)(D:a.length<=1000)(u:g≠m)(h:aE w g 2 (ints a))(n:aE w m 2 (ints b)):
 Calls tp 270 #[(g,a.length,a.length),(m,a.length,a.length)] w fun e o=>
  e=.returned (g,a.length,a.length)/\Below g w o/\aE o g 2 (ints (n9 a b)):=by
 have p:Hid ((n9 a b).length=a.length):=aU (Hy c);have f:Hid (a.length=(n9 a b).length):=aU p.out.symm;have q:aE w g 2 (ints (lU a (n9 a b) 0)):=by rw[R1];exact h
 have j:=aU c;clear h c;go_enter Tryz.func270,Tryz.ntmps270
 go_wp2_with fail
 go_loopw [9] (fun v wr=>∃k:Nat,k<=a.length/\v=k/\aE wr g 2 (ints (lU a (n9 a b) k))/\aE wr m 2 (ints b)/\Below g w wr) (fun i _=>a.length-(intOf i).toNat)
 case atStart=>exact⟨0,aM _,rfl,q,n,Below.refl _ _⟩
 case round=>
  obtain⟨k,E,rfl,h,n,t⟩:=hrel;by_cases d:k<a.length
  .obtain⟨x,y,l⟩:=h.nY (i:=k) (by rw[oW f.out];exact d);obtain⟨z,A,r⟩:=n.nY (i:=k) (by rw[<-j.out];exact d);have B:=h.free k;have C:Hid ((lU a (n9 a b) k).set k (add x z)=lU a (n9 a b) (k+1)):=aU (by
    rw[<-VU f.out d,R0 j.out d,r.out];rw[VT f.out (Nat.le_refl k) d]at l;rw[l.out])
   go_wp2_with (go_at_call 141;refine(mc _ _ _).mono ?_;rintro e o ⟨rfl,rfl⟩)
   go_roundw
   case rel=>exact⟨k+1,by omega,by go_num,by rw[<-C.out];exact h.jK k _,n.iD (by simp;omega) _,t.setCell (by simp) _⟩
   case measure=>simp[intOf];omega
  .obtain rfl:k=a.length:=by omega
   have s:Hid (lU a (n9 a b) a.length=n9 a b):=aU (VR f.out);go_wp2_with fail
   go_ret
   exact⟨rfl,t,by rw[<-s.out];exact h⟩
def lf(l:List Nd)(i:Nat):Int:=(l.getD i lp).least
def mf(l:List Nd)(i:Nat):Int:=(l.getD i lp).eY
def XY(l:List Nd)(i:Nat):Int:=wgt (l.getD i lp)
def ZD(l:List Nd):upto (lf l) l.length l.length=fI l:=Au (·.least) l
def ZE(l:List Nd):upto (mf l) l.length l.length=iC l:=Au (·.eY) l
def ZF(l:List Nd):upto (XY l) l.length l.length=IK l:=Au wgt l
def Td(n:Nat):upto (fun _=>(1:Int)) n n=pV n:=by
 apply kL
 .simp[upto,pV]
 .intro i a b;simp[upto,pV]at a|-;omega
def E7(room:Int)(l:List Nd)(A:Option Addr)(c:Nat)(sure:Bool)(w:World)(hl:l.length<=1000)(hb:Bet 70368744177664 l)(M:∀i,(l.getD i lp).least<=(l.getD i lp).eY)(hr:Et room)(hA:dU w w A 2 Nd.cells l):
 Calls tp 199 #[room,.slice A l.length c,sure] w fun e w'=>
  ∃g,w.heap.size<=g/\e=.returned (.slice (some ⟨g,0,none⟩) l.length l.length)/\Below w w w'/\aE w' g 2 (ints (E6 room l sure)):=by
 have ip:=Cn l.length (by omega);replace hb:=aU hb;replace M:=aU M;obtain⟨T,hT⟩:∃T,E6 room l sure=T:=⟨_,rfl⟩;have I:Hid ((if room<=cB (fI l) l.length then fI l
  else if room<=cB (iC l) l.length then n9 (fI l) (ji (sub room (cB (fI l) l.length)) (IK l))
  else if sure then n9 (iC l) (ji (sub room (cB (iC l) l.length)) (pV l.length))
  else iC l)=T):=aU hT
 rw[hT];clear hT;go_enter Tryz.func199,Tryz.ntmps199
 go_upto_region 2 with fail
 go_cut [9,10] (fun s9 i8 t=>∃o q:Nat,s9=(o,l.length,l.length)/\i8=(q,l.length,l.length)/\w.heap.size<=o/\w.heap.size<=q/\o≠q/\aE t o 2 (ints (upto (lf l) l.length 0))/\aE t q 2 (ints (upto (mf l) l.length 0))/\Below w w t)
 case first=>
  have N:Below w w w.drew:=(eL.refl w).drew.below _;have O:Below w w (w.drew.alloc (.cells (ints (List.replicate l.length 0)) 2)):=N.alloc (Nat.le_refl _) _;have m:Below w w ((w.drew.alloc (.cells (ints (List.replicate l.length 0)) 2)).alloc (.cells (ints (List.replicate l.length 0)) 2)):=O.alloc (by simp) _;have D:aE ((w.drew.alloc (.cells (ints (List.replicate l.length 0)) 2)).alloc (.cells (ints (List.replicate l.length 0)) 2)) w 2 (ints (List.replicate l.length 0)):=(aE.new w.drew _ _).alloc _;have E:aE ((w.drew.alloc (.cells (ints (List.replicate l.length 0)) 2)).alloc (.cells (ints (List.replicate l.length 0)) 2)) (w.heap.size+1) 2 (ints (List.replicate l.length 0)):=by
   have:=aE.new (w.drew.alloc (.cells (ints (List.replicate l.length 0)) 2)) 2 (ints (List.replicate l.length 0));simpa using this
  refine a8 ?_;refine mI (S:=fun _=>True) 999 (.one 0 true (.one 1 true (.one 3 true (.one 4 true (.two 2 (.one 6 true (.one 5 false (.one 7 true .nil))) 5 (.one 2 false (.one 6 true (.one 7 true .nil)))))))) (by kernel_rfl) (by kernel_rfl) (by kernel_rfl) (by decide) (fun _ _ _ _ _ h=>h) trivial (fun P=>?_);simp only[fL,aF,ap];iterate 4 (apply cU;rfl;(intro w f;go_simp;try(with_reducible rfl));simp only[Act.put,zA,zB,zC])
  refine OM rfl rfl rfl rfl (fun K j=>?_) (fun K j=>?_)
  .go_simp
   (try simp only[Act.put,zA,zB,zC])
   refine j.out _ _ trivial (fun _=>?_);clear j K;(apply cU;rfl;(intro w f;go_simp;try(with_reducible rfl));simp only[Act.put,zA,zB,zC]);refine cC rfl rfl (fun K j=>?_);go_simp
   (try simp only[Act.put,zA,zB,zC])
   refine j.out _ _ trivial (fun _=>?_);clear j K;(apply cU;rfl;(intro w f;go_simp;try(with_reducible rfl));simp only[Act.put,zA,zB,zC]);refine fA (a7 ?_);go_wp2_with fail
   go_meet
   exact⟨_,_,rfl,rfl,Nat.le_refl _,by omega,by omega,by rw[iP];exact D,by rw[iP];exact E,m⟩
  .go_simp
   (try simp only[Act.put,zA,zB,zC])
   refine j.out _ _ trivial (fun _=>?_);clear j K;refine cC rfl rfl (fun K j=>?_);go_simp
   (try simp only[Act.put,zA,zB,zC])
   refine j.out _ _ trivial (fun _=>?_);clear j K;iterate 2 (apply cU;rfl;(intro w f;go_simp;try(with_reducible rfl));simp only[Act.put,zA,zB,zC])
   refine fA (a7 ?_);go_wp2_with fail
   go_meet
   exact⟨_,_,rfl,rfl,by omega,ae _,by omega,by rw[iP];exact E,by rw[iP];exact D,m⟩
 case rest=>
 obtain⟨o,q,rfl,rfl,Q,R,a5,a,b,n⟩:=hcut;go_upto_region 3 with fail
 go_cut [11,12] (fun jp lw t=>∃r go:Nat,jp=(r,l.length,l.length)/\lw=(go,l.length,l.length)/\r≠o/\r≠q/\go≠o/\go≠q/\r≠go/\w.heap.size<=r/\w.heap.size<=go/\aE t r 2 (ints (upto (XY l) l.length 0))/\aE t go 2 (ints (upto (fun _=>1) l.length 0))/\aE t o 2 (ints (upto (lf l) l.length 0))/\aE t q 2 (ints (upto (mf l) l.length 0))/\Below w w t)
 case first=>
  have mp:=a.lt;have n6:=b.lt;have U:=n.size;have N:Below wc wc wc.drew:=(eL.refl wc).drew.below _;have O:Below wc wc (wc.drew.alloc (.cells (ints (List.replicate l.length 0)) 2)):=N.alloc (Nat.le_refl _) _;have m:Below wc wc ((wc.drew.alloc (.cells (ints (List.replicate l.length 0)) 2)).alloc (.cells (ints (List.replicate l.length 0)) 2)):=O.alloc (by simp) _;have D:aE ((wc.drew.alloc (.cells (ints (List.replicate l.length 0)) 2)).alloc (.cells (ints (List.replicate l.length 0)) 2)) wc 2 (ints (List.replicate l.length 0)):=(aE.new wc.drew _ _).alloc _;have E:aE ((wc.drew.alloc (.cells (ints (List.replicate l.length 0)) 2)).alloc (.cells (ints (List.replicate l.length 0)) 2)) (wc.heap.size+1) 2 (ints (List.replicate l.length 0)):=by
   have:=aE.new (wc.drew.alloc (.cells (ints (List.replicate l.length 0)) 2)) 2 (ints (List.replicate l.length 0));simpa using this
  have J:=a.below m mp;have L:=b.below m n6;have F:=n.trans (m.mono U);refine a8 ?_;refine mI (S:=fun _=>True) 999 (.one 0 true (.one 1 true (.one 3 true (.one 4 true (.two 2 (.one 6 true (.one 5 false (.one 7 true .nil))) 5 (.one 2 false (.one 6 true (.one 7 true .nil)))))))) (by kernel_rfl) (by kernel_rfl) (by kernel_rfl) (by decide) (fun _ _ _ _ _ h=>h) trivial (fun P=>?_);simp only[fL,aF,ap];iterate 4 (apply cU;rfl;(intro w f;go_simp;try(with_reducible rfl));simp only[Act.put,zA,zB,zC])
  refine OM rfl rfl rfl rfl (fun K j=>?_) (fun K j=>?_)
  .go_simp
   (try simp only[Act.put,zA,zB,zC])
   refine j.out _ _ trivial (fun _=>?_);clear j K;(apply cU;rfl;(intro w f;go_simp;try(with_reducible rfl));simp only[Act.put,zA,zB,zC]);refine cC rfl rfl (fun K j=>?_);go_simp
   (try simp only[Act.put,zA,zB,zC])
   refine j.out _ _ trivial (fun _=>?_);clear j K;(apply cU;rfl;(intro w f;go_simp;try(with_reducible rfl));simp only[Act.put,zA,zB,zC]);refine fA (a7 ?_);go_wp2_with fail
   go_meet
   exact⟨_,_,rfl,rfl,by omega,by omega,by omega,by omega,by omega,by omega,by omega,by rw[iP];exact D,by rw[iP];exact E,J,L,F⟩
  .go_simp
   (try simp only[Act.put,zA,zB,zC])
   refine j.out _ _ trivial (fun _=>?_);clear j K;refine cC rfl rfl (fun K j=>?_);go_simp
   (try simp only[Act.put,zA,zB,zC])
   refine j.out _ _ trivial (fun _=>?_);clear j K;iterate 2 (apply cU;rfl;(intro w f;go_simp;try(with_reducible rfl));simp only[Act.put,zA,zB,zC])
   refine fA (a7 ?_);go_wp2_with fail
   go_meet
   exact⟨_,_,rfl,rfl,by omega,by omega,by omega,by omega,by omega,by omega,by omega,by rw[iP];exact E,by rw[iP];exact D,J,L,F⟩
 case rest=>
 clear a b n;obtain⟨r,go,rfl,rfl,n1,n2,n3,n4,n5,Do,H1,s,d,a,b,n⟩:=hcut;clear ip;go_wp2_with fail
 go_loopw [7,8,29] (fun s7 s8 pm wr=>∃k:Nat,k<=l.length/\pm=k/\s7=(cB (fI l) k)/\s8=(cB (iC l) k)/\aE wr o 2 (ints (upto (lf l) l.length k))/\aE wr q 2 (ints (upto (mf l) l.length k))/\aE wr r 2 (ints (upto (XY l) l.length k))/\aE wr go 2 (ints (upto (fun _=>1) l.length k))/\Below w w wr) (fun _ _ i _=>l.length-(intOf i).toNat)
 case atStart=>exact⟨0,aM _,rfl,rfl,rfl,a,b,s,d,n⟩
 case round=>
  clear a b s d n;obtain⟨k,hk,rfl,rfl,rfl,a,b,s,d,n⟩:=hrel;by_cases G:k<l.length
  .obtain⟨bi,oi,x,rfl,In,HX,a9⟩:=Aq (hA.below n) G;have HG:Hid (l.getD k lp=x):=aU (by rw[ah,HX.out];rfl);have qr:=hb.out k;have rg:=M.out k;rw[HG.out]at qr rg;have za:=a.lt;have zb:=b.lt;have zw:=s.lt;have zo:=d.lt;have U:=n.size;go_wp2_with (refine aX 399 rfl ?_)
   refine⟨bY rfl 399 _ rfl bi (oi+k*2) rfl (Lc x.least x.eY) _ a9 Tryz.underlying399 rfl (uU _ _) ?_⟩;simp only[Act.put,zA,zB,zC];go_wp2_with (refine aX 399 rfl ?_)
   refine⟨dK (Lc x.least x.eY) rfl rfl rfl rfl (aE.new _ _ _) rfl (uU _ _) (qJ _ _) ?_⟩;intro w2 H hC;simp only[Act.put,zA,zB,zC];have B:Below wr wr w2:=((Below.refl wr wr).alloc (ae _) _).trans (hC.below (Nat.le_refl _));replace a:=a.below B za;replace b:=b.below B zb;replace s:=s.below B zw;replace d:=d.below B zo;have F:=n.trans (B.mono U);clear B hC n a9;generalize wr.heap.size=z at*;go_upto_region 7 with fail
   go_cut [] (fun t=>aE t o 2 (ints (upto (lf l) l.length (k+1)))/\aE t q 2 (ints (upto (mf l) l.length (k+1)))/\aE t r 2 (ints (upto (XY l) l.length k))/\aE t go 2 (ints (upto (fun _=>1) l.length k))/\aE t z 399 (Lc x.least x.eY)/\Below w w t)
   case first=>
    have ea:aE (w2.setCell (o,k) x.least) o 2 (ints (upto (lf l) l.length (k+1))):=by
     have:=a.jK k (lf l k);rw[n8]at this;rwa[show lf l k=x.least from by unfold lf;rw[HG.out]]at this
    obtain⟨y1,em,-⟩:=a.nY (i:=k) (by rw[fm];exact G);obtain⟨y2,V,-⟩:=b.nY (i:=k) (by rw[fm];exact G);have f1:=a.free k;have f2:=b.free k;have C:∀Z,aE Z z 399 (Lc x.least x.eY)->(fun Z:World=>Z.cell? z=x.least/\Z.cell? (z,1)=x.eY) Z:=fun Z h=>⟨h.cell 0,h.cell 1⟩;have eq:aE w2.drew z 399 (Lc x.least x.eY):=H;refine a8 ?_;refine dW (S:=fun Z:World=>Z.cell? z=x.least/\Z.cell? (z,1)=x.eY) 999 [1,1,1,1,1,1,1,1,1,0,1,0] (by kernel_rfl) (fun _ _ _ _ _ h=>h) (C _ eq) (fun P=>?_);simp only[osq,fL,aF,ap];iterate 9 (apply cU;rfl;(intro w f;go_simp;try(with_reducible rfl));simp only[Act.put,zA,zB,zC])
    refine cC rfl rfl (fun K j=>?_);go_simp
    have ge:=eq.iD (p:=(o,k)) (by simp;omega) x.least;(try simp only[Act.put,zA,zB,zC]);refine j.out _ _ (C _ ge) (fun _=>?_);clear j K;(apply cU;rfl;(intro w f;go_simp;try(with_reducible rfl));simp only[Act.put,zA,zB,zC]);refine cC rfl rfl (fun K j=>?_);go_simp
    have g7:=ge.iD (p:=(q,k)) (by simp;omega) x.eY;(try simp only[Act.put,zA,zB,zC]);refine j.out _ _ (C _ g7) (fun _=>?_);clear j K;refine fA (a7 ?_);go_wp2_with fail
    go_meet
    exact⟨(ea.iD (p:=(q,k)) a5 x.eY),(by have:=(b.iD (p:=(o,k)) a5.symm x.least).jK k (mf l k);rw[n8,show mf l k=x.eY from by unfold mf;rw[HG.out]]at this;exact this),(s.iD (p:=(o,k)) n1 _).iD (p:=(q,k)) n2 _,(d.iD (p:=(o,k)) n3 _).iD (p:=(q,k)) n4 _,g7,((F.drew).setCell (by simp;omega) _).setCell (by simp;omega) _⟩
   case rest=>
   clear a b s d H F;obtain⟨a,b,s,d,H,n⟩:=hcut;have c0:wc.cell? z=x.least:=H.cell 0;have W:wc.cell? (z,1)=x.eY:=H.cell 1;obtain⟨y1,em,-⟩:=s.nY (i:=k) (by rw[fm];exact G);obtain⟨y2,V,-⟩:=d.nY (i:=k) (by rw[fm];exact G);have f1:=s.free k;have f2:=d.free k;have g8:∀v,(wc.setCell (r,k) v).cell? (go,k)=y2:=fun v=>by rw[tK _ _ _ _ (by simp<;>omega)];exact V
   have un:∀v,(wc.setCell (r,k) v).frozen? (go,k)=false:=fun v=>(d.iD (p:=(r,k)) n5.symm v).free k;have ut:Hid (XY l k=min ((x.eY-x.least+64-1)/64) 65536):=aU (by unfold XY wgt;rw[HG.out];omega);have wl:0<=x.eY-x.least+64-1:=by omega
   go_upto_region 10 with fail
   refine bM (fun Z=>aE Z o 2 (ints (upto (lf l) l.length (k+1)))/\aE Z q 2 (ints (upto (mf l) l.length (k+1)))/\aE Z r 2 (ints (upto (XY l) l.length (k+1)))/\aE Z go 2 (ints (upto (fun _=>1) l.length (k+1)))/\aE Z z 399 (Lc x.least x.eY)/\Below w w Z) ⟨?_,?_,?_,?_,?_,?_⟩ ?_
   .exact(a.iD (p:=(r,k)) n1.symm _).iD (p:=(go,k)) n3.symm _
   .exact(b.iD (p:=(r,k)) n2.symm _).iD (p:=(go,k)) n4.symm _
   .have:=(s.jK k (XY l k)).iD (p:=(go,k)) n5 zJ;rw[n8,ut.out]at this;exact this
   .have:=(d.iD (p:=(r,k)) n5.symm (.int .i64 (min ((x.eY-x.least+64-1)/64) 65536))).jK k 1;rw[show(upto (fun _=>(1:Int)) l.length k).set k 1=upto (fun _=>1) l.length (k+1)from n8 (fun _=>1)]at this;exact this
   .exact(H.iD (p:=(r,k)) (by simp;omega) _).iD (p:=(go,k)) (by simp;omega) _
   .exact(n.setCell (by simp;omega) _).setCell (by simp;omega) _
   clear a b s d H n c0 W em V f1 f2 g8 un wl;rintro w5 ⟨a,b,s,d,H,n⟩;have wn:Hid (cB (fI l) (k+1)=add (cB (fI l) k) x.least):=aU (by show add _ ((fI l).getD k 0)=_;rw[K9,HG.out]);have ww:Hid (cB (iC l) (k+1)=add (cB (iC l) k) x.eY):=aU (by show add _ ((iC l).getD k 0)=_;rw[Py,HG.out]);have C:(fun Z:World=>Z.cell? z=x.least/\Z.cell? (z,1)=x.eY) w5.drew:=⟨H.drew.cell 0,H.drew.cell 1⟩;refine a8 ?_;refine dW (S:=fun Z:World=>Z.cell? z=x.least/\Z.cell? (z,1)=x.eY) 999 [1,1,1,1,1,1,1,1,1,1] (by kernel_rfl) (fun _ _ _ _ _ h=>h) (C) (fun P=>?_);simp only[osq,fL,aF,ap];iterate 3 (apply cU;rfl;(intro w f;go_simp;try(with_reducible rfl));simp only[Act.put,zA,zB,zC])
   (refine Ci 141 #[(cB (fI l) k),x.least] rfl (fun _ _=>by kernel_rfl) (fun w f=>mc _ _ _) ?_;simp only[Act.put,zA,zB,zC])
   iterate 3 (apply cU;rfl;(intro w f;go_simp;try(with_reducible rfl));simp only[Act.put,zA,zB,zC])
   (refine Ci 141 #[(cB (iC l) k),x.eY] rfl (fun _ _=>by kernel_rfl) (fun w f=>mc _ _ _) ?_;simp only[Act.put,zA,zB,zC])
   iterate 2 (apply cU;rfl;(intro w f;go_simp;try(with_reducible rfl));simp only[Act.put,zA,zB,zC])
   refine fA (a7 ?_);clear C;go_wp2_with fail
   go_roundw
   case rel=>exact⟨k+1,by omega,by go_num,by rw[wn.out],by rw[ww.out],a.drew,b.drew,s.drew,d.drew,n.drew⟩
   case measure=>simp[intOf];omega
  .obtain rfl:k=l.length:=by omega
   rw[ZD]at a;rw[ZE]at b;rw[ZF]at s;rw[Td]at d;have za:=a.lt;have zb:=b.lt;have zw:=s.lt;have zo:=d.lt;obtain⟨X,ii⟩:∃X,cB (fI l) l.length=X:=⟨_,rfl⟩;obtain⟨Y,io⟩:∃Y,cB (iC l) l.length=Y:=⟨_,rfl⟩;rw[ii,io]at I|-;clear ii io;by_cases W:room<=X
   .have HZ:Hid (fI l=T):=aU (by rw[<-I.out,if_pos W]);go_wp2_with fail
    go_ret
    exact⟨o,Q,rfl,n,by rw[<-HZ.out];exact a⟩
   .have d1:decide (room<=X)=false:=aA W;by_cases c2:room<=Y
    .have HZ:Hid (n9 (fI l) (ji (sub room X) (IK l))=T):=aU (by rw[<-I.out,if_neg W,if_pos c2]);have u:=xc (sub room X) (IK l) r l.length wr (by rw[qT];omega) (gB.MO s zw);rw[qT]at u;clear I;go_wp2_with (go_at_call 129;refine(n7 _ _ _).mono ?_;rintro e w' ⟨rfl,rfl⟩)
     refine u.mono ?_;clear u;rintro e w3 ⟨rfl,m,hP⟩;have y:=xi o wr (fI l) (ji (sub room X) (IK l)) w3 (by rw[uu,nJ,qT]) (by rw[nJ];exact hl) (by omega) (a.below m za) hP;rw[nJ]at y;go_wp2_with fail
     refine y.mono ?_;clear y;rintro e w4 ⟨rfl,am,hF⟩;go_wp2_with fail
     go_ret
     exact⟨o,Q,rfl,(n.trans (m.mono n.size)).trans (am.mono Q),by rw[<-HZ.out];exact hF⟩
    .have d2:decide (room<=Y)=false:=aA c2;cases sure
     .have HZ:Hid (iC l=T):=aU (by rw[<-I.out,if_neg W,if_neg c2];rfl);clear I;go_wp2_with fail
      go_ret
      exact⟨q,R,rfl,n,by rw[<-HZ.out];exact b⟩
     .have HZ:Hid (n9 (iC l) (ji (sub room Y) (pV l.length))=T):=aU (by rw[<-I.out,if_neg W,if_neg c2];rfl);have u:=xc (sub room Y) (pV l.length) go l.length wr (by rw[qU];omega) (gB.MO d zo);rw[qU]at u;clear I;go_wp2_with (go_at_call 129;refine(n7 _ _ _).mono ?_;rintro e w' ⟨rfl,rfl⟩)
      refine u.mono ?_;clear u;rintro e w3 ⟨rfl,m,hP⟩;have y:=xi q wr (iC l) (ji (sub room Y) (pV l.length)) w3 (by rw[uu,pd,qU]) (by rw[pd];exact hl) (by omega) (b.below m zb) hP;rw[pd]at y;go_wp2_with fail
      refine y.mono ?_;clear y;rintro e w4 ⟨rfl,am,hF⟩;go_wp2_with fail
      go_ret
      exact⟨q,R,rfl,(n.trans (m.mono n.size)).trans (am.mono R),by rw[<-HZ.out];exact hF⟩
namespace Num
def PB(n:Int):List Value:=[n]
def mx(r:List Int):Nat->Int
 |0=>0
 |k+1=>max (mx r k) (r.getD k 0)
def CY(a:List (List Int)):List Int:=a.map fun r=>mx r r.length
end Num
def Tm(l:List Int):l.flatMap PB=l.map (Value.int .i64):=by
 induction l with
 |nil=>rfl
 |cons x l ih=>simp only[bR,bV,ih,PB];rfl
def E9{r:List Int}(h:dU w B A 1 PB r):gB w B A r:=by
 intro c;obtain⟨b,d,e,f,g⟩:=h (by rintro rfl;simp at c);refine⟨b,d,e,f,fun j i=>?_⟩;have a:j<r.length:=by simpa using i
 have:=g j _ (af a) 0 _ rfl;simp only[iM,dI]at this;rw[this];simp[a]
def Li(a:List (List Int))(J:List Value)(A:Option Addr)(c:Nat)(w:World)(Y:a.length<=1000)(K:lG w w A 1 PB J a)(n:∀r∈a,r.length<=4611686018427387904/\∀x∈r,Et x):
 Calls tp 202 #[.slice A a.length c] w fun e F=>∃v,e=.returned v/\Below w w F/\F.ownsRow w 2 1 v a.length ((CY a).map (Value.int .i64)):=by
 obtain⟨L,o,p,q,s⟩:=info_parts HA;replace n:=aU n;go_enter Tryz.func202,Tryz.ntmps202
 go_wp2_with fail
 go_loopw [3,11] (fun M t wr=>∃(k:Nat),k<=a.length/\t=k/\wr.ownsRow w 2 1 M k ((CY (a.take k)).map (Value.int .i64))/\Below w w wr) (fun _ i _=>a.length-(intOf i).toNat)
 case atStart=>exact⟨0,aM _,rfl,dl _ _ _ _,Below.refl _ _⟩
 case round=>
  obtain⟨k,Z,rfl,f,l⟩:=hrel;have N:=l.size;by_cases u:k<a.length
  .obtain⟨b,O,A',c',r,rfl,hb,G,cr,P,y⟩:=lG.at_ (K.below l) u;obtain⟨Q,R⟩:=n.out r (List.mem_of_getElem? G.out);have S:=E9 y;have T:Hid ((CY (a.take (k+1))).map (Value.int .i64)=(CY (a.take k)).map (Value.int .i64)++[.int .i64 (mx r r.length)]):=aU (by rw[CV G.out];simp[CY]);go_wp2_with fail
   go_loop [6,17] (fun U z=>∃j:Nat,j<=r.length/\z=j/\U=(mx r j)) (fun _ i=>r.length-(intOf i).toNat)
   case atStart=>exact⟨0,aM _,rfl,rfl⟩
   case round=>
    obtain⟨j,hj,rfl,rfl⟩:=hrel;by_cases g:j<r.length
    .obtain⟨bi,oi,x,rfl,V,hc,W⟩:=S.at_ g;have X:Hid (mx r (j+1)=max (mx r j) x):=aU (by show max _ _=_;rw[W.out]);go_wp2_with fail
     go_round
     case rel=>exact⟨j+1,by omega,by go_num,by rw[X.out]⟩
     case measure=>simp[intOf];omega
    .obtain rfl:j=r.length:=by omega
     obtain⟨H,I,rfl,B⟩:=aV f;generalize mx r r.length=m at*;have d:=f.alloc (.cells #[m] 2);have C:Below w w (wr.alloc (.cells #[m] 2)):=l.alloc N _;go_wp2_with (refine cR _ _ _ _ rfl ?_)
     refine⟨eC _ rfl _ _ 23 rfl w 2 L zQ 1 8 Ba o p q s rfl (by decide) (.slice H k I) _ _ rfl d wr 1 1 [m] rfl rfl (S6 (aE.new wr 2 #[m]) rfl) (by simp[Value.oneCell']) (by unfold maxLen;omega) (by omega) (by simp;omega) ?_⟩;intro v4 w4 h D _;have E:=C.trans (eo d D (by simp;omega));obtain⟨A4,c4,rfl,-⟩:=aV h;go_wp2_with fail
     go_roundw
     case rel=>exact⟨k+1,by omega,by go_num,by rw[T.out];exact h,E⟩
     case measure=>simp[intOf];omega
  .obtain rfl:k=a.length:=by omega
   obtain⟨H,I,rfl,B⟩:=aV f;go_wp2_with fail
   go_ret
   rw[bL]at f;exact⟨_,rfl,l,f⟩
def CZ(l:List Int)(A:Option Addr)(c B:Nat)(w:World)(j:l.length<=17592186044416)(f:gB w B A l):
 Calls tp 131 #[.slice A l.length c] w fun e d=>e=.returned (cB l l.length)/\w=d:=by
 go_enter Tryz.func131,Tryz.ntmps131
 go_wp2
 go_loop [3,8] (fun s i=>∃k:Nat,k<=l.length/\i=k/\s=(cB l k)) (fun _ i=>l.length-(intOf i).toNat)
 case atStart=>exact⟨0,aM _,rfl,rfl⟩
 case round=>
  obtain⟨k,m,rfl,rfl⟩:=hrel;by_cases a:k<l.length
  .obtain⟨b,g,x,rfl,n,o,h⟩:=f.at_ a;go_wp2_with (go_at_call 141;refine(mc _ _ _).mono ?_;rintro e d ⟨rfl,rfl⟩)
   go_round
   case rel=>exact⟨k+1,by omega,by go_num,by simp only[cB,h.out]⟩
   case measure=>simp[intOf];omega
  .obtain rfl:k=l.length:=by omega
   go_wp2
   go_ret
   exact⟨rfl,rfl⟩
