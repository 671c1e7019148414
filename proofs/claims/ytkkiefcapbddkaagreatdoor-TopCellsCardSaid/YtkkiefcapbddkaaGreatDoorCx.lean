/- part of topCells.proved -/
import Derived.Test.YtkkiefcapbddkaaGreatDoorFa
set_option linter.all false
set_option maxRecDepth 1000000
set_option maxHeartbeats 0
noncomputable section
namespace Go.Abs
open Go.RowKit Go.Proofs YtkkiefcapbddkaaGreatDoor Mem ep Num
variable{d d7 d8 d9:D}{g:Gh}{H S a:Int}{F:Nat->Nat}{u v:Value}{w:World}{h:bw}
mutual
def lit:D->Bool
 |.i _ _=>true
 |.x _ _ _ _=>false
 |.b _=>true
 |.s x=>x.all fun b=>match b with|.c _=>true|.x _ _ _=>false
 |.z=>true
 |.np=>true
 |.nf=>true
 |.nm=>true
 |.l _ a=>uY a
 |.q _ a _ _=>uY a
 |.f _ _ _=>false
 |.o _=>false
def lits:List D->Bool
 |[]=>true
 |d::l=>lit d&&lits l
def uY:List (List D)->Bool
 |[]=>true
 |r::l=>lits r&&uY l
end
mutual
def Nu[de]:∀d:D,lit d=true->pD d=d/\pX d=true
 |.i _ _,_=>⟨rfl,rfl⟩
 |.x _ _ _ _,h=>by cases h
 |.b _,_=>⟨rfl,rfl⟩
 |.s x,h=>⟨rfl,h⟩
 |.z,_=>⟨rfl,rfl⟩
 |.np,_=>⟨rfl,rfl⟩
 |.nf,_=>⟨rfl,rfl⟩
 |.nm,_=>⟨rfl,rfl⟩
 |.l sz a,h=>by
  have:=wu a h;unfold pD pX;rw[this.1];exact⟨rfl,this.2⟩
 |.q sz a i j,h=>by
  have:=wu a h;unfold pD pX;rw[this.1];exact⟨rfl,this.2⟩
 |.f _ _ _,h=>by cases h
 |.o _,h=>by cases h
def IS[de]:∀l:List D,lits l=true->kC l=l/\jw l=true
 |[],_=>⟨by unfold kC;rfl,by unfold jw;rfl⟩
 |d::l,h=>by
  unfold lits at h;rw[ax]at h;have a:=Nu d h.1;have b:=IS l h.2;unfold kC jw;rw[a.1,b.1,a.2,b.2];exact⟨rfl,rfl⟩
def wu[de]:∀l:List (List D),uY l=true->jv l=l/\jA l=true
 |[],_=>⟨by unfold jv;rfl,by unfold jA;rfl⟩
 |d::l,h=>by
  unfold uY at h;rw[ax]at h;have a:=IS d h.1;have b:=wu l h.2;unfold jv jA;rw[a.1,b.1,a.2,b.2];exact⟨rfl,rfl⟩
end
def wv(a b:de)(h: @RD a F w d v)(e:lit d=true): @RD b F w d v:=by
 have c:= @Nu a d e;have:=K5 a b h c.2;rwa[c.1]at this
def IT:∀{l:List D},(∀d∈l,lit d=true)->lits l=true
 |[],_=>by unfold lits;rfl
 |d::l,h=>by
  unfold lits;rw[h d (by simp),IT fun x a=>h x (by simp[a])];rfl
def lc:∀{l:List (List D)},(∀r∈l,∀d∈r,lit d=true)->uY l=true
 |[],_=>by unfold uY;rfl
 |d::l,h=>by
  unfold uY;rw[IT (h d (by simp)),lc fun x a=>h x (by simp[a])];rfl
def C5(h:dP d=true):lit d=true:=by
 cases d with
 |s l=>
  show(l.all fun b=>match b with|.c _=>true|.x _ _ _=>false)=true;rw[aQ];intro x a
  letI:=dZ
  obtain⟨n,rfl,_⟩:=MQ (aQ.1 (show l.all MP=true from h) x a);rfl
 |_=>first|rfl|cases h
mutual
def W6:∀t:Bt,l9 t->∀d∈mO t,lit d=true
 |.mk kind node i f text a,h,d,hd=>by
  unfold l9 at h;unfold mO at hd;simp only[aw,aJ,bB,eA]at hd;rcases hd with rfl|rfl|rfl|hd|rfl|rfl
  .rfl
  .rfl
  .rfl
  .exact C5 (aQ.1 h.1.p d hd)
  .show((Pv text).all fun b=>match b with|.c _=>true|.x _ _ _=>false)=true;rw[aQ];intro x e;unfold Pv at e;obtain⟨u,_,rfl⟩:=List.mem_map.1 e;rfl
  .cases a with
   |nil=>rfl
   |cons k r=>
    show uY (mO k::ng r)=true;exact lc (fun row g=>AG (k::r) h.2 row (by unfold ng;exact g))
def AG:∀l:List Bt,gV l->∀row∈ng l,∀d∈row,lit d=true
 |[],_,row,a,d,b=>by unfold ng at a;cases a
 |k::r,h,row,a,d,b=>by
  unfold gV at h;unfold ng at a;rcases aw.1 a with rfl|a
  .exact W6 k h.1 d b
  .exact AG r h.2 row a d b
end
def wy{l:List Bt}(h:gV l):lit (il l)=true:=by
 cases l with
 |nil=>rfl
 |cons k r=>exact lc (fun row a=>AG (k::r) h row (by unfold ng;exact a))
mutual
def W7:∀t:dO,∀d∈tJ t,lit d=true
 |.mk kind node e j m h a b=>by
  intro d hd;rw[pg]at hd;simp only[aw,aJ,bB,eA,R4.ds]at hd;rcases hd with rfl|rfl|rfl|hd|(rfl|rfl)|(rfl|rfl|rfl|rfl)|(rfl|rfl|rfl|rfl)|rfl|rfl;all_goals first|rfl|skip
  .exact C5 (aQ.1 (bu _ _).p d hd)
  .show lit (uX a)=true;cases a with
   |nil=>rfl
   |cons g r=>
    refine lc (l:=Qh g::r.map Qh) (fun row c d hd=>?_);rw[<-bV (f:=Qh)]at c;obtain⟨i,_,rfl⟩:=List.mem_map.1 c;exact C5 (aQ.1 (Ts i) d hd)
  .show lit (p7 b)=true;cases b with
   |nil=>rfl
   |cons k r=>exact lc (fun row c=>AH (k::r) row (by unfold qW;exact c))
def AH:∀(l:List dO),∀row∈qW l,∀d∈row,lit d=true
 |[],row,h,_,_=>by unfold qW at h;cases h
 |k::r,row,h,d,a=>by
  unfold qW at h;rcases aw.1 h with rfl|h
  .exact W7 k d a
  .exact AH r row h d a
end
def IU(l:List dO):lit (p7 l)=true:=by
 cases l with
 |nil=>rfl
 |cons k r=>exact lc (fun row a=>AH (k::r) row (by unfold qW;exact a))
open Go
def IV:List D:=iN 3::iN 1::iN 1::(bh 4 0++[.s [],.o 7])
def X1:List D:=iN 1::iN 0::iN 0::(bh 1 0++[.s [],.l 57 [IV]])
def PJ:D:=.x .i64 (.v 5) 0 40500
def ZS:D:=.x .i64 (.v 6) 0 12000
def inV:V:=.a [iN 0,iN 0,PJ,iN 0,.b false]
def aa3:V:=.a [.z,.o 9,.z,ZS]
def Tt:List (FuncId×(List V->Option V)):=[(133,pO [pW,.a IV,.d (iN 1048576),.d (.b false)] (.d (.o 8))),(131,pO [.d (.o 8)] (.d PJ)),(134,pO [pW,.a IV,inV,.d (.o 8)] aa3)]
def aa4:List V:=[pW,.a IV,.d (iN 0),.d (iN 0),.a [iN 1048576,iN 0,.b false],.a [.np,.np,.np]]
def PK:D:=.x .i64 (.add (.v 5) (.c 0)) 0 40500
def PL:D:=.x .i64 (.add (.v 6) (.c 0)) 0 12000
def W8:List D:=iN 3::iN 1::iN 1::(bh 4 0++([.s [],.z]++([iN 0,iN 0,PK,PL]++[iN 0,iN 0,.x .i64 (.sub (.sub (.add (.v 5) (.c 0)) (.c 0)) (.c 0)) 0 40500,.x .i64 (.sub (.sub (.add (.v 6) (.c 0)) (.c 0)) (.c 0)) 0 12000,.z,.o 9])))
def aa5:V:=.a (W8++([iN 0,iN 0,PK,PL]++[iN 0,iN 0,iN 0,iN 0,iN 0,iN 0,iN 0,iN 0,iN 0,iN 0,iN 0,iN 0,PJ,ZS,.z]))
def Tu:List (FuncId×(List V->Option V)):=[(55,pO aa4 aa5)]
section
variable[de]
def Lk:sG.all (fun d=>match d with|.i .u8 _=>true|_=>false)=true:=by decide+kernel
def Gk.ZT(M:de.G=gS)(C:Rel g h w):Gk g.F w:=by
 have D:=C.lO 3 256 [sG] (by rw[M];rfl);generalize A:Value.pointer (some ⟨3,0,none⟩)=X at D;cases D with
 |q _ _ _ _ b B c t N E H O P Q=>
  injection A with A;injection A with A;injection A with R I Y;have I:0=B+0*256+0:=I;have S:B=0:=by omega
  subst S;subst R;refine⟨by simpa using H,fun Z t' T e=>?_,⟨c,t,N,E,by have:0+1*256<=g.F 3:=H;omega,fun j d v J V=>?_⟩,C.fresh⟩
  .rw[E]at e;cases e;exact O
  .have L:=List.all_eq_true.1 Lk d (List.mem_of_getElem? J);have W:=Q 0 sG j d v rfl J (by simpa using V);cases d with
   |i k n=>
    cases k<;>first|(cases L;done)|(cases W;exact⟨_,rfl,rfl⟩)
   |_=>cases L
def Tv:∀{args:List V} {i:Nat} {x:V},V.nk 0 args=true->args[i]? =some x->x.lt 0=true
 |[],i,x,h,a=>by simp at a
 |y::l,0,x,h,a=>by
  cases a;have h:(V.lt 0 y&&V.nk 0 l)=true:=h;rw[ax]at h;exact h.1
 |y::l,i+1,x,h,a=>by
  have h:(V.lt 0 y&&V.nk 0 l)=true:=h;rw[ax]at h;exact Tv h.2 (by simpa using a)
def PC.Ff{P:Program}{f:FuncId}{args:List V}{r:V}(Z:de.G=gS)(W:V.nk 0 args=true)(D:r.lt 0=true)
 (
  H:∀(F:Nat->Nat) (w:World) (N:List Value),Gk F w->GL (gF F) (fun _=>none) w args N->
  Calls P f N.toArray w fun e E=>∃v A,e=.returned v/\Below w w E/\Gk A E/\(∀b,b<w.heap.size->A b=F b)/\GV (gF A) (fun _=>none) E r v):
 PC P f args r:=by
 refine⟨W,D,?_⟩;intro g w N I hn X;refine(H g.F w N (Gk.ZT Z I) ⟨X.len,fun i x v O h2=>(X.at_ i x v O h2).bare (Tv W O)⟩).mono fun e E ⟨v,A,e1,C,Q,f1,hv⟩=>?_;have f2:=Q.fresh;have J:jt g.F w A E:=by
  refine⟨fun b=>?_,fun b c t fz Y=>?_⟩
  .rcases cD b w with j|R
   .rw[f1 b j];exact ae _
   .rw[I.fresh b R];exact aM _
  .have j:b<w.heap.size:=(Array.getElem?_eq_some_iff.1 Y).1;exact⟨c,t,fz,(C.block b j).trans Y,rfl,by rw[f1 b j];exact fP _ _,fun _ _=>rfl⟩
 have S:∀k b,dJ {σ:=g.σ,τ:=g.τ,F:=A,U:=g.U} (fun _=>none) k=some b->False:=fun k b B=>by simp[dJ]at B
 refine⟨v,r,fun _=>none,0,{g with F:=A},e1,rfl,GV.free (g:=gF A) (g1:={g with F:=A}) rfl hv D,⟨fun k sz L B=>(I.lO k sz L B).stay J,fun k k' b O _=>(S k b O).elim,fun b M=>?_,f2,fun k B=>⟨rfl,(I.top k B).2⟩,fun k o M=>by cases M⟩,fun k B=>hn k B,?_⟩
 .have j:=I.lt b M;exact bX j C.size
 .exact{
   n:=fun k B=>B
   size:=C.size
   os:=C.os
   tape:=C.tape
   output:=C.output
   stays:=J
   out:=fun b j _=>⟨C.block b j,f1 b j⟩
   own:=fun b M=>.inl M
   sig:=fun _ _=>rfl
   tok:=fun k _ n' T=>by cases T}
end
section
structure pH(V1 V2:de)(ds ds':List D):Prop where
 len:ds'.length=ds.length
 at_:∀(j:Nat) d d',ds[j]? =some d->ds'[j]? =some d'->∀(F:Nat->Nat) (w:World) (u:Value),@RD V1 F w d u-> @RD V2 F w d' u
def pH.app{C E:de}{a a' b I:List D}(h:pH C E a a')(k:pH C E b I):pH C E (a++b) (a'++I):=by
 have L:=h.len;refine⟨by simp[h.len,k.len],fun j d J B A=>?_⟩;by_cases M:j<a.length
 .rw[an M]at B;rw[an (by omega)]at A;exact h.at_ j d J B A
 .rw[ay (by omega)]at B A;rw[L]at A;exact k.at_ _ d J B A
def pH.one{A B:de}{d':D}(h:∀(F:Nat->Nat) (w:World) (u:Value),@RD A F w d u-> @RD B F w d' u):pH A B [d] [d']:=⟨rfl,fun j x I C E=>by
 cases j with
 |zero=>cases C;cases E;exact h
 |succ j=>simp at C⟩
def pH.nil{A B:de}:pH A B [] []:=⟨rfl,fun j x D C=>by simp at C⟩
def pH.cons{j A:de}{d B:D}{a C:List D}(h:∀(F:Nat->Nat) (w:World) (u:Value),@RD j F w d u-> @RD A F w B u)(k:pH j A a C):pH j A (d::a) (B::C):=pH.app (pH.one h) k
def pH.lit{B C:de}{A:List D}(h:∀d∈A,lit d=true):pH B C A A:=⟨rfl,fun j d L E I F w u J=>by
 rw[E]at I;cases I;exact wv B C J (h d (List.mem_of_getElem? E))⟩
def pH.pD{A C:de}{B:List D}(h:jw B=true):pH A C B (@kC A B):=⟨by rw[@ou A B,List.length_map],fun j d L E I F w u J=>by
 rw[@ou A B,List.getElem?_map,E]at I;cases I;exact K5 A C J (jW h d (List.mem_of_getElem? E))⟩
def wC{d f:de}{g c:List D}{j:List Value}(h: @RA d F w g j)(e:pH d f g c): @RA f F w c j:=
 @RA.mk f F w c j (by rw[e.len];exact @RA.len d _ _ _ _ h) (fun i l v a b=>by
  have k:i<g.length:=by rw[<-e.len];exact(aa.1 a).1
  exact e.at_ i _ l (List.getElem?_eq_getElem k) a F w v (@RA.at_ d _ _ _ _ h i _ v (List.getElem?_eq_getElem k) b))
def Tw{m f:de}{sz:Nat}{r g:List D}(h: @RD m F w (.l sz [r]) v)(e:pH m f r g): @RD f F w (.l sz [g]) v:=by
 generalize n:D.l sz [r]=d at h;cases h with
 |l x o b k cap c t y z A B C E G I=>
  injection n with J K;subst J K;refine @RD.l f F w sz [g] b k cap c t y z A B C E (fun q hq=>by rw[bG.1 hq,e.len];exact G r (by simp)) (fun i q j L u a p M=>?_)
  match i,a with
  |0,a=>
   cases a;have s:j<r.length:=by rw[<-e.len];exact(aa.1 p).1
   exact e.at_ j _ L (List.getElem?_eq_getElem s) p F w u (I 0 r j _ u rfl (af s) M)
  |i+1,a=>simp at a
 |_=>cases n
@[reducible] noncomputable def kh (adv S H:Int) (d7 d8 d9:D):de where
 v:=fun i=>match i with|1=>adv|5=>S|6=>H|_=>0
 f:=fun _ _ _=>0
 d:=fun i=>match i with|7=>d7|8=>d8|9=>d9|_=>.z
 G:=gS
section
variable{adv S H:Int}{d7 d8 d9:D}
def aa6(a:de)(c:lit d7=true): @RD (kh adv S H d7 d8 d9) F w (.o 7) u-> @RD a F w d7 u:=fun h=>by
 generalize b:D.o 7=d at h;cases h with
 |o i v h=>cases b;exact wv _ a h c
 |_=>cases b
def aa7(a:de)(c:lit d9=true): @RD (kh adv S H d7 d8 d9) F w (.o 9) u-> @RD a F w d9 u:=fun h=>by
 generalize b:D.o 9=d at h;cases h with
 |o i v h=>cases b;exact wv _ a h c
 |_=>cases b
def X2(a:de)(c:lit d8=true): @RD (kh adv S H d7 d8 d9) F w (.o 8) u-> @RD a F w d8 u:=fun h=>by
 generalize b:D.o 8=d at h;cases h with
 |o i v h=>cases b;exact wv _ a h c
 |_=>cases b
end
end
def rH1:D:=.x .i64 (.add (.sub (.add (.add (.c 0) (.add (.v 6) (.c 0))) (.c 0)) (.c 0)) (.c 0)) 0 12000
def rH2:D:=.x .i64 (.sub (.sub (.add (.sub (.add (.add (.c 0) (.add (.v 6) (.c 0))) (.c 0)) (.c 0)) (.c 0)) (.c 0)) (.c 0)) 0 12000
def X3:List D:=iN 1::iN 0::iN 0::(bh 1 0++([.s [],.z]++([iN 0,iN 0,iN 1048576,rH1]++([iN 0,iN 0,iN 1048576,rH2]++[.z,.l 67 [W8]]))))
def TB:ij (gR Tt) 40 55 aa4 aa5=true:=by decide+kernel
def Xa:ij (gR Tu) 40 26 [pW,.a X1] (.a X3)=true:=by decide+kernel
def vd(a:Int)(C:List Int)(node j n:Nat)(y:Int):dO:=.mk 5 node 6 4278190335 ⟨cB C j,y,C.getD j 0,1280⟩ ⟨cB C j,y,C.getD j 0,1280⟩ [⟨(node:Int)+1,n,⟨cB C j,y,(n:Int)*a,1280⟩⟩] []
def Fg(b:Int)(C:List Int)(S:Int)(node:Nat)(a:List Nat)(y:Int):dO:=.mk 4 node 5 0 ⟨0,y,S,iZ a⟩ ⟨0,y,S,iZ a⟩ [] ((List.range a.length).map fun j=>vd b C (node+1+2*j) j (a.getD j 0) y)
def vf(b:Int)(C:List Int)(S:Int)(a:List (List Nat)):List dO:=(List.range a.length).map fun i=>Fg b C S (sr 2 a i) (a.getD i []) (fU a i)
def wF(a:Int)(b:List (List Nat)):dO:=.mk 3 1 4 0 ⟨0,0,cB (bo a b) (bo a b).length,fU b b.length⟩ ⟨0,0,cB (bo a b) (bo a b).length,fU b b.length⟩ [] (vf a (bo a b) (cB (bo a b) (bo a b).length) b)
def ja(b:Int)(a:List (List Nat)):dO:=.mk 1 0 1 0 ⟨0,0,1048576,fU a a.length⟩ ⟨0,0,1048576,fU a a.length⟩ [] [wF b a]
def TC(a:Int)(C:List Int)(node j n:Nat)(y:Int):tJ (vd a C node j n y)=pF (node:Int) (cB C j) y (C.getD j 0) ((n:Nat)*a) n:=by
 rw[pg];rfl
def Xb(a:Int)(C:List Int)(S:Int)(node:Nat)(b:List Nat)(y:Int):tJ (Fg a C S node b y)=C1 (node:Int) y S (iZ b) (jN a C (node+1) b y b.length):=by
 rw[pg];have e:p7 (Fg a C S node b y).kids=fJ (jN a C (node+1) b y b.length):=by
  rw[AE]
  congr 1
  unfold Fg jN dO.kids;rw[fj];refine fa fun j _=>?_;exact TC a C (node+1+2*j) j (b.getD j 0) y
 rw[e];rfl
def C7(a:Int)(C:List Int)(S:Int)(b:List (List Nat)):p7 (vf a C S b)=fJ (fN a C S b b.length):=by
 rw[AE]
 congr 1
 unfold vf fN;rw[fj];refine fa fun i _=>?_;exact Xb a C S (sr 2 b i) (b.getD i []) (fU b i)
def gW(C:List Int):D:=.l 1 (C.map fun x=>[iN x])
def C8(C:List Int):lit (gW C)=true:=by
 refine lc (fun r a d b=>?_);obtain⟨x,_,rfl⟩:=List.mem_map.1 a;rw[bG.1 b];rfl
def r8[de]{C:List Int}(p:Gk F w)(h:RD F w (gW C) v):∃A c,v=.slice A C.length c/\gB w w A C:=by
 by_cases n:C=[]
 .subst n;generalize f:gW []=d at h;cases h with
  |lz sz=>exact⟨none,0,rfl,gB.nil _ _ _⟩
  |l sz e b a cap c t q o r s u x y z=>
   have f:D.l 1 []=.l sz e:=f;injection f with g i;subst g i;exact⟨_,cap,rfl,gB.nil _ _ _⟩
  |_=>cases f
 .obtain⟨b,a,cap,rfl,-,o,-,k⟩:=eV h (by simpa using n);refine⟨(b,a),cap,by rw[aj],fun _=>⟨b,a,rfl,o,fun j m=>?_⟩⟩;rw[aj]at m;obtain⟨B,g,i⟩:=k j [iN (C[j])] (by rw[ai,af m];rfl);rw[ku (show[iN C[j]].all dP=true from rfl) i]at g;have:=g 0 (C[j]) rfl;rw[ai,af m];simpa using this
def GL.ph[de]{x:V}{D:List V}{A:List Value}(B:GL g h w (x::D) A):∃a j,A=a::j/\GV g h w x a/\GL g h w D j:=by
 have C:=B.len
 match A,C with
 |a::j,C=>exact⟨a,j,rfl,B.at_ 0 x a rfl rfl,⟨by simpa using C,fun i y u E H=>B.at_ (i+1) y u (by simpa using E) (by simpa using H)⟩⟩
def GL.TD[de]{j:List Value}(A:GL g h w [] j):j=[]:=List.eq_nil_of_length_eq_zero A.len
def IY(b:de)(c:lit d7=true):pH (kh a S H d7 d8 d9) b IV (iN 3::iN 1::iN 1::(bh 4 0++[.s [],d7])):=by
 have e:pH (kh a S H d7 d8 d9) b (iN 3::iN 1::iN 1::(bh 4 0++[.s []])) (iN 3::iN 1::iN 1::(bh 4 0++[.s []])):=pH.lit (fun d f=>C5 (aQ.1 (show(iN 3::iN 1::iN 1::(bh 4 0++[.s []])).all dP=true from rfl) d f));exact e.app (pH.one (fun F w u h=>aa6 b c h))
def Lm(b:de)(c:lit d7=true):pH b (kh a S H d7 d8 d9) (iN 3::iN 1::iN 1::(bh 4 0++[.s [],d7])) IV:=by
 have e:pH b (kh a S H d7 d8 d9) (iN 3::iN 1::iN 1::(bh 4 0++[.s []])) (iN 3::iN 1::iN 1::(bh 4 0++[.s []])):=pH.lit (fun d f=>C5 (aQ.1 (show(iN 3::iN 1::iN 1::(bh 4 0++[.s []])).all dP=true from rfl) d f));exact e.app (pH.one (fun F w u h=> @RD.o (kh a S H d7 d8 d9) F w 7 u (wv b _ h c)))
def vL1: @de.v (kh a S H d7 d8 d9) 1=a:=rfl
def IZ:pH (kh a S H d7 d8 d9) dZ sn (nI a):=by
 have h:= @pH.pD (kh a S H d7 d8 d9) dZ sn rZ;have e: @kC (kh a S H d7 d8 d9) sn=nI a:=by simp[nI,sn,kC,jv,pD,Ex.val,iN,vL1]
 rwa[e]at h
def Ln{a S H:Int}{d7 d8 d9:D}(c:1<=a)(d:a<=500){F:Nat->Nat}{w:World}{b:List Value}(h: @RA dZ F w (nI a) b): @RA (kh a S H d7 d8 d9) F w sn b:=by
 have e:nI a= @kC (kh a S H d7 d8 d9) sn:=by simp[nI,sn,kC,jv,pD,Ex.val,iN,vL1]
 rw[e]at h;exact mQ (kh a S H d7 d8 d9) dZ h (by simp[sn,uP,pE,Bw,Ex.val,iN,vL1];omega) rZ
def Fh(a:List (List Nat)):mO (Io (pf a))=iN 3::iN 1::iN 1::(bh 4 0++[.s [],il (gQ 2 (pf a))]):=by
 unfold Io mO;generalize gQ 2 (pf a)=l;cases l<;>rfl
def TE(a:List (List Nat)):mO (M5 (pf a))=iN 1::iN 0::iN 0::(bh 1 0++[.s [],.l 57 [mO (Io (pf a))]]):=rfl
