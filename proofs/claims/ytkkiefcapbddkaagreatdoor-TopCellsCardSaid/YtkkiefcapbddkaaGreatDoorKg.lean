/- part of topCells.proved -/
import Derived.Test.YtkkiefcapbddkaaGreatDoorCe
set_option linter.all false
set_option maxRecDepth 1000000
set_option maxHeartbeats 0
noncomputable section
namespace Go.Proofs.YtkkiefcapbddkaaGreatDoor
open Go.RowKit Mem ep Num Ord
variable{cnt:Int}{op:List Nat}{B b c i n:Nat}{e:TypeId}{A C j:Value}{w:World}
namespace ep
mutual
def sz:Pt->Nat
 |.mk name text a=>if name.toList.isEmpty then 1 else 1+x3 a
def x3:List Pt->Nat
 |[]=>0
 |k::r=>sz k+x3 r
end
def iT:Nat->List Pt->Int->Int
 |_,[],l=>l
 |s,k::r,l=>iT (s+sz k) r s
mutual
def flat(n:Nat)(c b d:Int):Pt->List Nd
 |.mk name text a=>if name.toList.isEmpty then[⟨2,name,text,c,-1,-1,b,d⟩]else
  ⟨1,name,eQ,c,(match a with|[]=> -1|_::_=>(n:Int)+1),iT (n+1) a (-1),b,d⟩::fo (n+1) n (-1) a
def fo(s:Nat)(a b:Int):List Pt->List Nd
 |[]=>[]
 |k::r=>flat s a b (match r with|[]=> -1|_::_=>((s+sz k:Nat):Int)) k++fo (s+sz k) a s r
end
mutual
def dT(n:Nat)(c a d:Int):∀p:Pt,(flat n c a d p).length=sz p
 |.mk name text b=>by
  unfold flat sz;split
  .rfl
  .rw[aW,Cp (n+1) n (-1) b];omega
def Cp(s:Nat)(b a:Int):∀l:List Pt,(fo s b a l).length=x3 l
 |[]=>by unfold fo x3;rfl
 |k::r=>by
  unfold fo x3;rw[aO,dT,Cp]
end
def EF(p:Pt):0<sz p:=by
 cases p with
 |mk name text a=>unfold sz;split<;>omega
def rS(n:Nat)(c a d:Int)(p:Pt):∃(x:Nd) (r:List Nd),∀z,flat n c a z p={x with nxt:=z}::r:=by
 cases p with
 |mk name text b=>
  by_cases h:name.toList.isEmpty=true
  .exact⟨⟨2,name,text,c,-1,-1,a,0⟩,[],fun z=>by unfold flat;rw[aS h]⟩
  .exact⟨⟨1,name,eQ,c,(match b with|[]=> -1|_::_=>(n:Int)+1),iT (n+1) b (-1),a,0⟩,fo (n+1) n (-1) b,fun z=>by unfold flat;rw[aI h]⟩
def H2(A B:List Nd)(f:Nd->Nd)(h:i<A.length):xA (A++B) i f=xA A i f++B:=by
 unfold xA;rw[AX _ _ h]
 congr 2
 simp[ah,an h]
def rT(A:List Nd)(x:Nd)(B:List Nd)(f:Nd->Nd):xA (A++x::B) A.length f=A++f x::B:=by
 unfold xA;rw[iw _ _ (ae _)];simp[ah]
def link(M:List Nd)(n:Nat)(a:Int)(s:Int):List Nd:=if a= -1 then xA M n (Nd.HJ s)else xA M a.toNat (Nd.HO s)
def H3(M:List Nd)(n:Nat)(a s:Int):(link M n a s).length=M.length:=by unfold link;split<;>rw[iE]
def OV(M B:List Nd){a:Int}(s:Int)(b:n<M.length)(c:a≠-1->a.toNat<M.length):link (M++B) n a s=link M n a s++B:=by
 unfold link;split
 .exact H2 _ _ _ b
 .next h=>exact H2 _ _ _ (c h)
mutual
def Cq(b a:Int):∀(p:Pt) (L:List Nd),eU b a p L=L++flat L.length b a (-1) p
 |.mk name text c,L=>by
  unfold eU flat;by_cases h:name.toList.isEmpty=true
  .rw[aS h,if_pos h]
  .rw[aI h,if_neg h];have d:=Cs L.length c (L++[⟨1,name,eQ,b,-1,-1,a,-1⟩]) (-1) (by simp) (fun h=>absurd rfl h);rw[d];simp only;cases c with
   |nil=>
    simp only[fo,iT,fh];rw[show L++[(⟨1,name,eQ,b,-1,-1,a,-1⟩:Nd)]=L++⟨1,name,eQ,b,-1,-1,a,-1⟩::[]from rfl,rT];rfl
   |cons k r=>
    simp only[link,iu];rw[show L++[(⟨1,name,eQ,b,-1,-1,a,-1⟩:Nd)]=L++⟨1,name,eQ,b,-1,-1,a,-1⟩::[]from rfl,rT];simp only[bC,et,dt];rw[rT];simp[Nd.HJ,Nd.VY]
def Cs(n:Nat):∀(l:List Pt) (M:List Nd) (a:Int),n<M.length->(a≠-1->0<=a/\a.toNat<M.length)->sk n l (M,a)=((match l with|[]=>M|_::_=>link M n a M.length)++fo M.length n a l,iT M.length l a)
 |[],M,a,f,g=>by unfold sk fo iT;simp
 |k::r,M,a,f,g=>by
  unfold sk;simp only;have j:=Cq n a k M;have m:(if a= -1 then xA (eU n a k M) n (Nd.HJ M.length)else xA (eU n a k M) a.toNat (Nd.HO M.length))=link M n a M.length++flat M.length n a (-1) k:=by
   rw[j];exact OV M _ _ f (fun h=>(g h).2)
  rw[m];have c:(link M n a M.length++flat M.length n a (-1) k).length=M.length+sz k:=by rw[aO,H3,dT]
  have p:=EF k;have o:=Cs n r (link M n a M.length++flat M.length n a (-1) k) M.length (by rw[c];omega) (fun _=>⟨by omega,by rw[c];simp;omega⟩);rw[o,c];unfold fo iT;cases r with
  |nil=>simp[fo,iT]
  |cons q s=>
   simp only;obtain⟨x,b,i⟩:=rS M.length n a (-1) k;have d:link (link M n a M.length++flat M.length n a (-1) k) n (M.length:Int) ((M.length+sz k:Nat):Int)=link M n a M.length++flat M.length n a ((M.length+sz k:Nat):Int) k:=by
    unfold link;rw[aI (by omega),cJ,i,i];have e:=rT (link M n a M.length) {x with nxt:= -1} b (Nd.HO ((M.length+sz k:Nat):Int));rw[H3]at e;unfold link at e;rw[e];rfl
   rw[d];simp only[bC,fo,iT]
end
end ep
namespace ep
def zz{p:Int}{q:List Int}:∀{a:List Int},(∀j∈a,p<j)->nZ p (a++p::q)=p::q
 |[],_=>by simp[nZ]
 |j::a,h=>by
  have c:=h j (by simp);rw[et,nZ,aI (by omega)];exact zz fun z b=>h z (by simp[b])
def getD_set_ne(l:List Int){j:Nat}(v:Int)(h:i≠j):(l.set i v).getD j 0=l.getD j 0:=by
 simp[ah,jY,h]
def jE(l:List Int)(v:Int)(h:i<l.length):(l.set i v).getD i 0=v:=by
 simp[ah,h]
def jr{L:List Nd}{x:Nd}{r:List Nd}(h:L.drop n=x::r):L[n]? =some x/\n<L.length/\L.drop (n+1)=r:=by
 have c:n<L.length:=by
  rcases cD n L.length with h2|h2
  .exact h2
  .rw[jC h2]at h;cases h
 rw[bQ c]at h;obtain⟨a,b⟩:=List.cons.inj h;exact⟨by rw[af c,a],c,b⟩
def uw{L A B:List Nd}(h:L.drop n=A++B):L.drop (n+A.length)=B:=by
 rw[<-ir,h,List.drop_left]
structure Ran(L:List Nd)(n m:Nat)(par:Nat)(q:List Int)(seg rest:List Nd)(st la:List Int)(e:Int):Prop where
 out:∃junk la',(∀j∈junk,(par:Int)<j)/\la'.length=L.length/\la'.getD par 0=e/\(∀z,z≠par->(z<n\/n+m<=z)->la'.getD z 0=la.getD z 0)/\(∀(i:Nat) x,seg[i]? =some x->la'.getD (n+i) 0=x.lst)/\
  ∀S,nb L (n+m) rest (junk++(par:Int)::q) la'=some S->nb L n (seg++rest) st la=some S
def Ct{L:List Nd}{x:Nd}{r:List Nd}{d q e S:List Int}(i:n≠0)(k:∀j∈d,(c:Int)<j)(l:x.par=c)(f:n≠c)(m:x.prv=e.getD c 0)(o:x.prv= -1->(L.getD c lp).fst=n)(g:x.prv≠-1->(L.getD x.prv.toNat lp).nxt=n)
 (h:nb L (n+1) r (if x.kind=1 then(n:Int)::(c:Int)::q else(c:Int)::q) ((e.set n (-1)).set c n)=some S):nb L n (x::r) (d++(c:Int)::q) e=some S:=by
 unfold nb;have p:Cg L n x (d++(c:Int)::q) e=some (if x.kind=1 then(n:Int)::(c:Int)::q else(c:Int)::q,(e.set n (-1)).set c n):=by
  unfold Cg;rw[aI i,l,zz k];simp only[cJ];rw[aI (by rw[getD_set_ne _ _ f];simpa using m),if_neg (fun⟨a,b⟩=>b (o a)),if_neg (fun⟨a,b⟩=>b (g a))]
 rw[p];exact h
mutual
def R7(L:List Nd):∀(p:Pt) (n a:Nat) (b k:Int) (c:List Nd) (f q m:List Int),L.drop n=flat n a b k p++c->a<n->(∀j∈f,(a:Int)<j)->m.length=L.length->m.getD a 0=b->
 (b= -1->(L.getD a lp).fst=n)->(b≠-1->(L.getD b.toNat lp).nxt=n)->Ran L n (sz p) a q (flat n a b k p) c (f++(a:Int)::q) m n
 |.mk name text d,n,a,b,k,c,f,q,m,r,I,C,e,o,D,E=>by
  unfold flat sz at*;by_cases s:name.toList.isEmpty=true
  .rw[aS s]at r|-;rw[aS s];obtain⟨F,t,G⟩:=jr r;refine⟨[],(m.set n (-1)).set a n,by simp,by simpa using e,?_,fun z u v=>?_,fun i x g=>?_,fun S w=>?_⟩
   .exact jE _ _ (by rw[eI,e];omega)
   .rw[getD_set_ne _ _ (Ne.symm u),getD_set_ne _ _ (by omega)]
   .cases i with
    |zero=>
     simp at g;subst g;rw[getD_set_ne _ _ (by omega),dI,jE _ _ (by rw[e];exact t)]
    |succ i=>simp at g
   .exact Ct (by omega) C rfl (by omega) o.symm D E (by simpa using w)
  .rw[aI s]at r|-;rw[aI s];obtain⟨F,t,G⟩:=jr r;have J:=vV L d (n+1) n (-1) c [] ((a:Int)::q) ((m.set n (-1)).set a n) G (by omega) (by simp) (by simpa using e) (by rw[getD_set_ne _ _ (by omega),jE _ _ (by rw[e];exact t)])
    (
     fun y _=>by
     rw[ah,F];cases d with
     |nil=>exact absurd rfl y
     |cons=>simp) (fun _ h=>absurd rfl h)
   obtain⟨l,A,K,M,N,H,O,P⟩:=J.out;refine⟨l++[(n:Int)],A,fun j B=>?_,M,?_,fun z u v=>?_,fun i x g=>?_,fun S w=>?_⟩
   .rcases aJ.1 B with h|h
    .have:=K j h;omega
    .simp at h;omega
   .rw[H a (by omega) (by omega),jE _ _ (by rw[eI,e];omega)]
   .rw[H z (by omega) (by omega),getD_set_ne _ _ (Ne.symm u),getD_set_ne _ _ (by omega)]
   .cases i with
    |zero=>
     simp at g;subst g;exact N
    |succ i=>
     simp at g;have:=O i x g;rw[show n+(i+1)=n+1+i by omega];exact this
   .refine Ct (by omega) C rfl (by omega) o.symm D E ?_;simp only[iu];refine P S ?_;rw[show n+1+x3 d=n+(1+x3 d) by omega];simpa using w
def vV(L:List Nd):∀(l:List Pt) (s b:Nat) (a:Int) (d:List Nd) (c q e:List Int),L.drop s=fo s b a l++d->b<s->(∀j∈c,(b:Int)<j)->e.length=L.length->e.getD b 0=a->
 (l≠[]->a= -1->(L.getD b lp).fst=s)->(l≠[]->a≠-1->(L.getD a.toNat lp).nxt=s)->Ran L s (x3 l) b q (fo s b a l) d (c++(b:Int)::q) e (iT s l a)
 |[],s,b,a,d,c,q,e,o,t,w,f,g,F,G=>by
  unfold fo x3 iT;exact⟨c,e,w,f,g,fun z _ _=>rfl,fun i x p=>by simp at p,fun S y=>by simpa using y⟩
 |k::r,s,b,a,d,c,q,e,o,t,w,f,g,F,G=>by
  unfold fo x3 iT at*;rw[bC]at o;have I:=R7 L k s b a _ _ c q e o t w f g (F (by simp)) (G (by simp));obtain⟨m,A,J,K,M,N,O,P⟩:=I.out;have u:=uw o;rw[dT]at u;have Z:=EF k;have Q:=vV L r (s+sz k) b s d m q A u (by omega) J K M (fun _ h=>by omega) (fun B _=>by
   obtain⟨x,rr,C⟩:=rS s b a 0 k;rw[C]at o;obtain⟨R,_,_⟩:=jr o;rw[cJ,ah,R];cases r with
   |nil=>exact absurd rfl B
   |cons=>simp)
  obtain⟨n,D,T,U,V,H,W,X⟩:=Q.out;refine⟨n,D,T,U,V,fun z v Y=>?_,fun i x p=>?_,fun S y=>?_⟩
  .rw[H z v (by omega),N z v (by omega)]
  .by_cases E:i<sz k
   .rw[an (by rw[dT];exact E)]at p;rw[H (s+i) (by omega) (by omega)];exact O i x p
   .rw[ay (by rw[dT];omega),dT]at p;have:=W (i-sz k) x p;rw[show s+i=s+sz k+(i-sz k) by omega];exact this
  .rw[bC];refine P S (X S ?_);rw[show s+sz k+x3 r=s+(sz k+x3 r) by omega];exact y
end
end ep
namespace ep
mutual
def R8:Pt->Prop
 |.mk name text a=>(name.toList.isEmpty=true/\text.toList.isEmpty=false)\/(name.toList.isEmpty=false/\ux a)
def ux:List Pt->Prop
 |[]=>True
 |k::r=>R8 k/\ux r
end
structure Y0(L:List Nd)(m:Nat)(x:Nd):Prop where
 lone:x.lone
 par:0<m->0<=x.par/\x.par<m
 prv:x.prv= -1\/(0<=x.prv/\x.prv<L.length)
 fst:x.lst= -1->x.fst= -1
 lst:x.lst≠-1->0<=x.lst/\x.lst<L.length/\(L.getD x.lst.toNat lp).nxt= -1
def qL(L:List Nd)(c:Int):∀(l:List Pt) (s:Nat) (a:Int) (b:List Nd),l≠[]->L.drop s=fo s c a l++b->0<=iT s l a/\iT s l a<L.length/\(L.getD (iT s l a).toNat lp).nxt= -1
 |[],_,_,_,h,_=>absurd rfl h
 |k::r,s,a,b,_,d=>by
  unfold fo at d;unfold iT;rw[bC]at d;cases r with
  |nil=>
   simp only[iT];obtain⟨x,m,f⟩:=rS s c a 0 k;rw[f]at d;obtain⟨g,n,_⟩:=jr d;refine⟨by omega,by omega,?_⟩;rw[cJ,ah,g];rfl
  |cons i j=>
   have e:=uw d;rw[dT]at e;exact qL L c (i::j) (s+sz k) s b (by simp) e
mutual
def Cu(L:List Nd):∀(p:Pt) (n:Nat) (d a j:Int) (b:List Nd),R8 p->L.drop n=flat n d a j p++b->(0<n->0<=d/\d<n)->(a= -1\/(0<=a/\a<n))->∀(i:Nat) x,(flat n d a j p)[i]? =some x->Y0 L (n+i) x
 |.mk name text c,n,d,a,j,b,l,m,g,e,i,x,f=>by
  unfold flat at m f;unfold R8 at l;by_cases o:name.toList.isEmpty=true
  .rw[aS o]at m f;obtain⟨t,u,q⟩:=jr m;cases i with
   |succ i=>simp at f
   |zero=>
    simp at f;subst f;have v:text.toList.isEmpty=false:=by
     rcases l with⟨_,h⟩|⟨h,_⟩
     .exact h
     .rw[o]at h;cases h
    exact⟨.inr ⟨rfl,o,v,rfl,rfl⟩,fun h=>by simpa using g (by omega),by rcases e with h|h;exact .inl h;exact .inr ⟨h.1,by show a<(L.length:Int);omega⟩,fun _=>rfl,fun h=>absurd rfl h⟩
  .rw[aI o]at m f;obtain⟨t,u,q⟩:=jr m;have s:name.toList.isEmpty=false/\ux c:=by
    rcases l with⟨h,_⟩|h
    .exact absurd h o
    .exact h
   cases i with
   |zero=>
    simp at f;subst f;refine⟨.inl ⟨rfl,s.1,by show(ByteArray.mk #[]).toList.isEmpty=true;decide+kernel⟩,fun h=>by simpa using g (by omega),by rcases e with h|h;exact .inl h;exact .inr ⟨h.1,by show a<(L.length:Int);omega⟩,fun h=>?_,fun h=>?_⟩
    .cases c with
     |nil=>rfl
     |cons k r=>
      have:=(qL L n (k::r) (n+1) (-1) b (by simp) q).1;simp only at h;omega
    .cases c with
     |nil=>exact absurd rfl h
     |cons k r=>exact qL L n (k::r) (n+1) (-1) b (by simp) q
   |succ i=>
    simp at f;have:=zD L c (n+1) n (-1) b s.2 q (by omega) (.inl rfl) i x f;rw[show n+(i+1)=n+1+i by omega];exact this
def zD(L:List Nd):∀(l:List Pt) (s b:Nat) (a:Int) (c:List Nd),ux l->L.drop s=fo s b a l++c->b<s->(a= -1\/(0<=a/\a<s))->∀(i:Nat) x,(fo s b a l)[i]? =some x->Y0 L (s+i) x
 |[],s,b,a,c,e,g,j,d,i,x,f=>by unfold fo at f;simp at f
 |k::r,s,b,a,c,e,g,j,d,i,x,f=>by
  unfold fo at g f;unfold ux at e;rw[bC]at g;have n:=EF k;by_cases m:i<sz k
  .rw[an (by rw[dT];exact m)]at f;exact Cu L k s b a _ _ e.1 g (fun _=>⟨by omega,by omega⟩) d i x f
  .rw[ay (by rw[dT];omega),dT]at f;have h:=uw g;rw[dT]at h;have:=zD L r (s+sz k) b s c e.2 h (by omega) (.inr ⟨by omega,by omega⟩) (i-sz k) x f;rw[show s+i=s+sz k+(i-sz k) by omega];exact this
end
def Cv(name text:ByteArray)(a:List Pt)(c:name.toList.isEmpty=false):∃x:Nd,flat 0 (-1) (-1) (-1) (.mk name text a)=x::fo 1 (0:Nat) (-1) a/\x.kind=1/\x.par= -1/\x.prv= -1/\x.nxt= -1/\x.lst=iT 1 a (-1)/\(a≠[]->x.fst=1):=by
 unfold flat;rw[aI (by simp[c])];refine⟨_,rfl,rfl,rfl,rfl,rfl,rfl,fun b=>?_⟩;cases a with
 |nil=>exact absurd rfl b
 |cons=>rfl
def KE(name text:ByteArray)(a:List Pt)(q:name.toList.isEmpty=false)(u:ux a)(r:(flat 0 (-1) (-1) (-1) (.mk name text a)).length<=4000):∃f,uo (flat 0 (-1) (-1) (-1) (.mk name text a)) f:=by
 obtain⟨L,j⟩:∃L,flat 0 (-1) (-1) (-1) (.mk name text a)=L:=⟨_,rfl⟩;have v:L.drop 0=flat 0 (-1) (-1) (-1) (.mk name text a)++[]:=by rw[j];simp
 have b:∀(i:Nat) x,L[i]? =some x->Y0 L i x:=fun i x w=>by
  have:=Cu L (.mk name text a) 0 (-1) (-1) (-1) [] (by unfold R8;exact .inr ⟨q,u⟩) v (by omega) (.inl rfl) i x (by rw[j];exact w);rwa[bc]at this
 rw[j]at r|-;obtain⟨s,g,y,z,A,B,C,D⟩:=Cv name text a q;rw[j]at g;have c:L=s::fo 1 (0:Nat) (-1) a:=g;have k:L.drop 1=fo 1 (0:Nat) (-1) a++[]:=by rw[c];simp
 have l:L[0]? =some s:=by rw[c];rfl
 have d:0<L.length:=by rw[c];simp
 have E:=vV L a 1 0 (-1) [] [] [] ((List.replicate L.length 0).set 0 (-1)) k (by omega) (by simp) (by simp) (by rw[jE _ _ (by simpa using d)])
  (
   fun m _=>by
   rw[ah,l];exact D m) (fun _ h=>absurd rfl h)
 obtain⟨t,o,I,J,F,K,G,H⟩:=E.out;refine⟨o,d,r,⟨_,l,y,z,A,B⟩,fun n x h=>(b n x h).lone,fun n x h=>(b n x h).par,fun n x h=>(b n x h).prv,?_,fun n x h=>?_⟩
 .have p:=H o (by simp[nb]);rw[fh]at p
  conv=>lhs;rw[c]
  unfold nb;simp only[Cg,iu,dt]at p|-;rw[<-c];exact p
 .have e:x.lst=o.getD n 0:=by
   cases n with
   |zero=>rw[l]at h;cases h;exact C.trans F.symm
   |succ n=>
    rw[c]at h;simp at h;have:=G n x h;rw[show n+1=1+n by omega];exact this.symm
  rw[<-e];exact⟨rfl,(b n x h).fst,(b n x h).lst⟩
mutual
def Jq(d:Int):Pt->List Int
 |.mk name text a=>if name.toList.isEmpty then[d]else d::xB (d+1) a
def xB(d:Int):List Pt->List Int
 |[]=>[]
 |k::r=>Jq d k++xB d r
end
mutual
def EG(d:Int):∀p:Pt,(Jq d p).length=sz p
 |.mk name text a=>by
  unfold Jq sz;split
  .rfl
  .rw[aW,H4];omega
def H4(d:Int):∀l:List Pt,(xB d l).length=x3 l
 |[]=>by unfold xB x3;rfl
 |k::r=>by unfold xB x3;rw[aO,EG,H4]
end
def zE{L:List Int}{x:Int}{r:List Int}(h:L.drop n=x::r):L.getD n 0=x/\L.drop (n+1)=r:=by
 have c:n<L.length:=by
  rcases cD n L.length with h2|h2
  .exact h2
  .rw[jC h2]at h;cases h
 rw[bQ c]at h;obtain⟨a,b⟩:=List.cons.inj h;exact⟨by rw[ah,af c];exact a,b⟩
mutual
def OW(D:List Int):∀(p:Pt) (n e:Nat) (c f d:Int) (a:List Int),D.drop n=Jq d p++a->D.getD e 0=d-1->∀(i:Nat) x,(flat n e c f p)[i]? =some x->D.getD (n+i) 0=D.getD x.par.toNat 0+1
 |.mk name text g,n,e,c,f,d,a,h,m,i,x,b=>by
  unfold flat at b;unfold Jq at h;by_cases j:name.toList.isEmpty=true
  .rw[aS j]at h b;obtain⟨l,k⟩:=zE h;cases i with
   |succ i=>simp at b
   |zero=>
    simp at b;subst b;simp only[cJ,dI];omega
  .rw[aI j]at h b;obtain⟨l,k⟩:=zE h;cases i with
   |zero=>
    simp at b;subst b;simp only[cJ,dI];omega
   |succ i=>
    simp at b;have:=tj D g (n+1) n (-1) (d+1) a k (by omega) i x b;rw[show n+(i+1)=n+1+i by omega];exact this
def tj(D:List Int):∀(l:List Pt) (s c:Nat) (b d:Int) (a:List Int),D.drop s=xB d l++a->D.getD c 0=d-1->∀(i:Nat) x,(fo s c b l)[i]? =some x->D.getD (s+i) 0=D.getD x.par.toNat 0+1
 |[],s,c,b,d,a,f,g,i,x,e=>by unfold fo at e;simp at e
 |k::r,s,c,b,d,a,f,g,i,x,e=>by
  unfold fo at e;unfold xB at f;rw[bC]at f;by_cases h:i<sz k
  .rw[an (by rw[dT];exact h)]at e;exact OW D k s c b _ d _ f g i x e
  .rw[ay (by rw[dT];omega),dT]at e;have j:D.drop (s+sz k)=xB d r++a:=by rw[<-ir,f,<-EG d k,List.drop_left]
   have:=tj D r (s+sz k) c s d a j g (i-sz k) x e;rw[show s+i=s+sz k+(i-sz k) by omega];exact this
end
mutual
def hgt:Pt->Nat
 |.mk name text a=>1+EH a
def EH:List Pt->Nat
 |[]=>0
 |k::r=>max (hgt k) (EH r)
end
mutual
def R9(d:Int):∀(p:Pt) (v:Int),v∈Jq d p->d<=v/\v<d+hgt p
 |.mk name text a,v,h=>by
  unfold Jq at h;unfold hgt;split at h
  .simp at h;omega
  .rcases aw.1 h with h|h
   .omega
   .have:=MW (d+1) a v h;omega
def MW(d:Int):∀(l:List Pt) (v:Int),v∈xB d l->d<=v/\v<d+EH l
 |[],v,h=>by unfold xB at h;simp at h
 |k::r,v,h=>by
  unfold xB at h;unfold EH;rcases aJ.1 h with h|h
  .have:=R9 d k v h;omega
  .have:=MW d r v h;omega
end
def OX(name text:ByteArray)(a:List Pt)(g:name.toList.isEmpty=false)(k:hgt (.mk name text a)<=100):Deep (flat 0 (-1) (-1) (-1) (.mk name text a)) (Jq 1 (.mk name text a)):=by
 have b:(Jq 1 (.mk name text a)).length=(flat 0 (-1) (-1) (-1) (.mk name text a)).length:=by rw[EG,dT]
 have d:Jq 1 (.mk name text a)=1::xB 2 a:=by unfold Jq;rw[aI (by simp[g])];rfl
 obtain⟨l,h,-⟩:=Cv name text a g;refine⟨b,by rw[d];rfl,fun n x e i=>?_,fun n f=>?_⟩
 .cases n with
  |zero=>omega
  |succ n=>
   rw[h]at e;simp at e;have:=tj (Jq 1 (.mk name text a)) a 1 0 (-1) 2 [] (by rw[d];simp) (by rw[d];rfl) n x e;rw[show n+1=1+n by omega];exact this
 .have c:n<(Jq 1 (.mk name text a)).length:=by rw[b];exact f
  have j:(Jq 1 (.mk name text a)).getD n 0∈Jq 1 (.mk name text a):=by
   rw[ah,af c];exact jn c
  have:=R9 1 _ _ j;omega
end ep
def jU{P:Program}{fn:Func}{a:Array Value}(k s c b:Nat)(h:fn.results=#[.cell s c,.tmp k])(v:Value)(i:a.getD k undef=v)(j:a.getD s undef=pt b){t:TypeId}{e:Array Value}(l:aE w b t e)
 (d:TypeDesc)(m:P.underlying c=some d)(n:d.isRow=true)(o:(P.info? c).map (·.size)=some e.size):(results fn a).run P w=.ok (.tuple #[.agg e,v]) w:=by
 have p:=run_loadVar_mid (P:=P) w b 0 c e.toList d l.range m n (by simpa using o);have f:a[s]?.getD undef=pt b:=by simpa using j
 have g:a[k]?.getD undef=v:=by simpa using i
 have q:(asAddr (pt b)).run P w=.ok b w:=rfl;simp[results,h,f,g,Sem.run_bind,p,q]
def eW{S z:Nat}{v:Value}{d:List Value}(h:w.ownsRow S e z v n d)(f:B<=S):w.ownsRow B e z v n d:=by
 refine⟨h.1,?_⟩;rcases h.2 with a|⟨g,c,b,i,a,j⟩
 .exact .inl a
 .exact .inr ⟨g,c,b,i,Nat.le_trans f a,j⟩
def Sa{p:Pt}{l:Value}(L:List Nd)(i D:List Int)(w:World)(H:Br w w p l)(I:eU (-1) (-1) p []=L)(O:uo L i)(P:Deep L D)(o:L.length<=1000):
 Calls tp 31 #[.agg #[p.name,p.text,zn,l]] w fun e u=>∃A c,e=tQ #[.agg #[.slice A L.length c],zQ]/\Below w w u/\u.ownsRow w 121 9 (.slice A L.length c) L.length (L.flatMap Nd.cells):=by
 go_enter Tryz.func31,Tryz.ntmps31
 go_upto_region 3 with fail
 have d:aE (w.alloc (.cells #[p.name,p.text,zn,l] 103)) w 103 #[p.name,p.text,zn,l]:=aE.new _ _ _;have b:Below w w (w.alloc (.cells #[p.name,p.text,zn,l] 103)):=(Below.refl _ _).alloc (ae _) _;have J:(w.alloc (.cells #[p.name,p.text,zn,l] 103)).heap.size=w.heap.size+1:=by simp
 generalize w.alloc (.cells #[p.name,p.text,zn,l] 103)=w1 at*;have j:aE (w1.alloc (.cells #[zn] 48)) (w.heap.size+1) 48 #[zn]:=aE.newAt _ _ _ J.symm;replace d:=d.alloc (.cells #[zn] 48);replace b:=b.alloc (by omega) (.cells #[zn] 48);have K:(w1.alloc (.cells #[zn] 48)).heap.size=w.heap.size+1+1:=by simp[J]
 generalize w1.alloc (.cells #[zn] 48)=w2 at*;have n:aE (w2.alloc (.cells #[zn] 48)) (w.heap.size+1+1) 48 #[zn]:=aE.newAt _ _ _ K.symm;replace d:=d.alloc (.cells #[zn] 48);replace j:=j.alloc (.cells #[zn] 48);replace b:=b.alloc (by omega) (.cells #[zn] 48);have Q:(w2.alloc (.cells #[zn] 48)).heap.size=w.heap.size+1+1+1:=by simp[K]
 generalize w2.alloc (.cells #[zn] 48)=w3 at*;have r:aE (w3.alloc (.cells #[.nilFunc] 169)) (w.heap.size+1+1+1) 169 #[.nilFunc]:=aE.newAt _ _ _ Q.symm;replace d:=d.alloc (.cells #[.nilFunc] 169);replace j:=j.alloc (.cells #[.nilFunc] 169);replace n:=n.alloc (.cells #[.nilFunc] 169);replace b:=b.alloc (by omega) (.cells #[.nilFunc] 169);generalize w3.alloc (.cells #[.nilFunc] 169)=w4 at*;have R:=r.cell 0;have f3:=r.free 0;obtain⟨B,s⟩:=iG w.heap.size;rw[<-s]at d j n r b R f3 H|-;replace s:=aU s;go_upto_region 4 with fail
 have v:aE (w4.setCell (B+1+1+1,0) (.func (.func 76) #[] #[pt (B+1+1),pt (B+1+1+1)])) (B+1+1+1) 169 #[ED (B+1+1) (B+1+1+1)]:=r.put 0 _;have hC:=fp.setCell w4 (B+1+1+1,0) (.func (.func 76) #[] #[pt (B+1+1),pt (B+1+1+1)]);replace d:=d.dA hC (by simp<;>omega);replace j:=j.dA hC (by simp<;>omega);replace n:=n.dA hC (by simp;try omega);replace b:=b.trans (hC.below (B:=B) (by simp;omega));generalize w4.setCell (B+1+1+1,0) (.func (.func 76) #[] #[pt (B+1+1),pt (B+1+1+1)])=w5 at*;have S:=v.cell 0;unfold ED at S;go_wp2_with (refine aX 103 rfl ?_)
 refine⟨eu rfl rfl rfl d Tryz.underlying103 rfl (by kernel_rfl) ?_⟩;have m:(eU (-1) (-1) p []).length<=1000:=by rw[I];exact o
 have x:=H.under b;have y:=v.lt;go_upto_region 5 with(go_at_call 76;refine(R6 w5 B (B+1+1+1+1) (B+1+1) (B+1+1+1) (by omega) (by omega) (by omega) (by omega) y x (-1) (-1) [] _ w5 (Kp.refl _ _ _) n v (dl _ _ _ _) m).mono ?_;rintro e M ⟨rfl,a,v6,t,X,f⟩)
 rw[I]at f;obtain⟨A,c,rfl,-⟩:=aV f;have N:aE M (B+1) 48 #[zn]:=(a.iD (B+1) (by omega) (by omega)).trans j;have T:=b.trans ⟨a.os,a.tape,a.output,a.size,fun k Y=>a.iD k (by omega) (by omega)⟩;have z:=dU.qI th (by decide) f;have Z:=t.cell 0;go_upto_region 6 with(go_at_call 23;refine(rP L i D A c M O P z).mono ?_;rintro e C ⟨rfl,h⟩)
 have q:=ca f h;have U:=T.trans (h.mono (by have:=t.lt;omega));have E:=N.below h N.lt;have c7:=(t.below h t.lt).cell 0;have c8:=E.cell 0;have f8:=E.free 0;go_wp2_with fail
 have F:=E.put 0 (.slice A L.length c);have hC:=fp.setCell C (B+1,0) (.slice A L.length c);have V:=U.trans (hC.below (B:=B) (by simp<;>omega));have G:=eW (aZ (w':=C.setCell (B+1,0) (.slice A L.length c)) q (fun g W _=>hC.other g (by have:=(q.lt g W).1;simp;omega))) (show B<=B+1+1+1+1 by omega);generalize C.setCell (B+1,0) (.slice A L.length c)=w8 at*;refine ej (jU 3 2 48 (B+1) rfl zQ rfl rfl F _ Tryz.underlying48 rfl (by kernel_rfl)) rfl ?_;rw[<-s.out];exact⟨A,c,rfl,V,G⟩
namespace ep
def EI(w:World)(A:Option Addr)(l:List ByteArray):Prop:=l≠[]->∃b a,A=some ⟨b,a,none⟩/\∀(i:Nat) s,l[i]? =some s->w.cell? ⟨b,a+i,none⟩=s
def uy(x:ByteArray):Nat->List ByteArray->Int
 |_,[]=> -1
 |k,s::r=>if x.toList==s.toList then(k:Int)else uy x (k+1) r
def KF(x:ByteArray)(k:Nat)(s:ByteArray)(r:List ByteArray):uy x k (s::r)=if x.toList==s.toList then(k:Int)else uy x (k+1) r:=by rw[uy]
end ep
def KG(x:ByteArray)(l:List ByteArray)(A:Option Addr)(c:Nat)(w:World)(q:l.length<=100)(n:EI w A l):
 Calls tp 244 #[.slice A l.length c,x] w fun e o=>e=.returned (uy x 0 l)/\w=o:=by
 obtain⟨R,hR⟩:∃R,uy x 0 l=R:=⟨_,rfl⟩;have g:=aU hR;rw[hR];go_enter Tryz.func244,Tryz.ntmps244
 go_wp2_with fail
 go_loopw [8] (fun s wr=>∃k:Nat,k<=l.length/\s=k/\wr=w/\Hid (uy x k (l.drop k)=R)) (fun i _=>l.length-(intOf i).toNat)
 case atStart=>exact⟨0,aM _,rfl,rfl,g⟩
 case round=>
  obtain⟨k,r,rfl,rfl,g⟩:=hrel;by_cases d:k<l.length
  .have t:=lJ k l.length (by omega);obtain⟨b,p,rfl,m⟩:=n (by rintro rfl;simp at d);obtain⟨s,h⟩:∃s,l[k]? =some s:=⟨l[k],List.getElem?_eq_getElem d⟩;have u:=m k s h;have a:l.drop k=s::l.drop (k+1):=by rw[bQ d];have:=h;rw[af d]at this;cases this;rfl
   have f:=aU (show(if x.toList==s.toList then(k:Int)else uy x (k+1) (l.drop (k+1)))=R by rw[<-g.out,a,KF]);clear a g h m;have v:IntKind.i64.wrap ((k:Int)+1)=((k+1:Nat):Int):=by rw[bE _ (by omega)];omega
   cases hq:x.toList==s.toList with
   |true=>
    rw[hq]at f;go_wp2_with fail
    go_ret
    exact⟨by rw[<-f.out];rfl,rfl⟩
   |false=>
    rw[hq]at f;go_wp2_with fail
    go_roundw
    case rel=>exact⟨k+1,by omega,rfl,trivial,f⟩
    case measure=>simp[intOf];omega
  .have j:k=l.length:=by omega
   subst j;go_wp2_with fail
   go_ret
   exact⟨by rw[<-g.out,List.drop_length];rfl,rfl⟩
def pQ(x:ByteArray)(l:List ByteArray):Bool:=decide (0<=uy x 0 l)
def nt(x:ByteArray)(l:List ByteArray)(A:Option Addr)(c:Nat)(w:World)(b:l.length<=100)(d:EI w A l):
 Calls tp 59 #[x,.slice A l.length c] w fun e a=>e=.returned (.bool (pQ x l))/\w=a:=by
 go_enter Tryz.func59,Tryz.ntmps59
 go_wp2_with (go_at_call 158;refine(show Calls tp 158 #[.slice A l.length c,x] w fun e a=>e=.returned (.bool (pQ x l))/\w=a by
  go_enter Tryz.func158,Tryz.ntmps158
  go_wp2_with (go_at_call 244;refine(KG x l A c w b d).mono ?_;rintro e f ⟨rfl,rfl⟩)
  go_ret
  exact⟨rfl,rfl⟩).mono ?_;rintro e f ⟨rfl,rfl⟩)
 go_ret
 exact⟨rfl,rfl⟩
namespace ep
structure VZ(w:World)(b:Nat)(ov cnt dp:Value)(op:List Nat)(ns:List ByteArray):Prop where
 dJ:aE w b 95 #[ov,cnt,dp]
 len:ns.length=op.length
 pos:0<op.length
 le:op.length<=100
 row:∃g c,ov=.slice (some ⟨g,0,none⟩) op.length c/\∀(i:Nat) p,op[i]? =some p->w.cell? ⟨g,i,none⟩=pt p
 name:∀(i:Nat) p s,op[i]? =some p->ns[i]? =some s->w.cell? p=s
def ju(b:List ByteArray)(a:Int)(name:ByteArray):Nat->Int
 |0=> -1
 |i+1=>if a<(i:Int)then(if(b.getD i eQ).toList==name.toList then(i:Int)else ju b a name i)else-1
def pS(a:List ByteArray)(l:List ByteArray):Nat->Int
 |0=>0
 |i+1=>if 0<i then(if pQ (a.getD i eQ) l then(i:Int)else pS a l i)else 0
end ep
def Cw{x cnt y:Value}{d:List ByteArray}(l:VZ w b x cnt y op d)(a:Int)(name:ByteArray)(G:0<=a)(H:a<=1000):
 Calls tp 70 #[pt b,a,name] w fun e z=>e=.returned (ju d a name d.length)/\w=z:=by
 obtain⟨g,c,rfl,f⟩:=l.row;have v:=l.pos;have A:=l.le;have m:=l.len;obtain⟨R,hR⟩:∃R,ju d a name d.length=R:=⟨_,rfl⟩;have i:=aU hR;rw[hR];rw[m]at i;have I:=l.dJ.cell 0;have n:=l.name;have B:=aU n;have o:=aU f;clear n f;have J:IntKind.i64.wrap ((op.length:Int)-1)=(op.length:Int)-1:=bE _ (by omega);go_enter Tryz.func70,Tryz.ntmps70
 go_wp2_with fail
 go_loopg [7] op.length (fun C s wr=>∃k:Nat,C=k/\k<=op.length/\s=.int .i64 ((k:Int)-1)/\wr=w/\Hid (ju d a name k=R))
 case atStart=>exact⟨op.length,rfl,Nat.le_refl _,rfl,rfl,i⟩
 case round=>
  clear i;obtain⟨K,q,L,rfl,rfl,i⟩:=hrel;subst q;cases gk with
  |zero=>
   have M:¬a< -1:=by omega
   go_wp2_with fail
   go_ret
   exact⟨by rw[<-i.out];rfl,rfl⟩
  |succ k=>
   have D:((k+1:Nat):Int)-1=(k:Int):=by omega
   rw[D];obtain⟨p,r⟩:∃p,op[k]? =some p:=⟨op[k],List.getElem?_eq_getElem (by omega)⟩;obtain⟨s,t⟩:∃s,d[k]? =some s:=⟨d[k],List.getElem?_eq_getElem (by omega)⟩;have N:=o.out k p r;have O:=B.out k p s r t;have j:=aU (show(if a<(k:Int)then(if s.toList==name.toList then(k:Int)else ju d a name k)else-1)=R by
    rw[<-i.out,ju,ah,t];rfl)
   have E:k<op.length:=by omega
   clear i r t;have P:IntKind.i64.wrap ((k:Int)-1)=(k:Int)-1:=bE _ (by omega);by_cases u:a<(k:Int)
   .have F:decide (a<(k:Int))=true:=decide_eq_true u;cases hq:s.toList==name.toList with
    |true=>
     go_wp2_with fail
     go_ret
     refine⟨?_,rfl⟩;have h:=j.out;rw[aS (by omega),aS hq]at h;rw[<-h];rfl
    |false=>
     go_wp2_with fail
     go_roundg k
     case measure=>omega
     case rel=>exact⟨k,rfl,by omega,rfl,rfl,aU (by have:=j.out;rw[aS u,if_neg (by simp[hq])]at this;exact this)⟩
   .have F:decide (a<(k:Int))=false:=decide_eq_false u;go_wp2_with fail
    go_ret
    refine⟨?_,rfl⟩;have h:=j.out;rw[aI (by omega)]at h;rw[<-h];rfl
def uz{z cnt B:Value}{a:List ByteArray}(f:VZ w b z cnt B op a)(l:List ByteArray)(A:Option Addr)(q:Nat)(v:l.length<=100)(x:EI w A l):
 Calls tp 67 #[pt b,.slice A l.length q] w fun e C=>e=.returned (pS a l a.length)/\w=C:=by
 obtain⟨g,c,rfl,d⟩:=f.row;have m:=f.pos;have D:=f.le;have n:=f.len;obtain⟨R,hR⟩:∃R,pS a l a.length=R:=⟨_,rfl⟩;have j:=aU hR;rw[hR];rw[n]at j;have L:=f.dJ.cell 0;have E:=aU f.name;have o:=aU d;clear d f;have M:IntKind.i64.wrap ((op.length:Int)-1)=(op.length:Int)-1:=bE _ (by omega);go_enter Tryz.func67,Tryz.ntmps67
 go_wp2_with fail
 go_loopg [5] op.length (fun F s wr=>∃k:Nat,F=k/\0<k/\k<=op.length/\s=.int .i64 ((k:Int)-1)/\wr=w/\Hid (pS a l k=R))
 case atStart=>exact⟨op.length,rfl,m,Nat.le_refl _,rfl,rfl,j⟩
 case round=>
  clear j;obtain⟨N,r,G,O,rfl,rfl,j⟩:=hrel;subst r;cases gk with
  |zero=>omega
  |succ k=>
   have H:((k+1:Nat):Int)-1=(k:Int):=by omega
   rw[H];obtain⟨p,t⟩:∃p,op[k]? =some p:=⟨op[k],List.getElem?_eq_getElem (by omega)⟩;obtain⟨s,u⟩:∃s,a[k]? =some s:=⟨a[k],List.getElem?_eq_getElem (by omega)⟩;have P:=o.out k p t;have Q:=E.out k p s t u;have i:=aU (show(if 0<k then(if pQ s l then(k:Int)else pS a l k)else 0)=R by
    rw[<-j.out,pS,ah,u];rfl)
   have I:k<op.length:=by omega
   clear j t u;have S:IntKind.i64.wrap ((k:Int)-1)=(k:Int)-1:=bE _ (by omega);by_cases y:0<k
   .have J:decide ((0:Int)<(k:Int))=true:=decide_eq_true (by omega);cases hq:pQ s l with
    |true=>
     go_wp2_with (go_at_call 59;refine(nt s l A q _ v x).mono ?_;rw[hq];rintro e K ⟨rfl,rfl⟩)
     go_ret
     refine⟨?_,rfl⟩;have h:=i.out;rw[aS (by omega),aS hq]at h;rw[<-h];rfl
    |false=>
     go_wp2_with (go_at_call 59;refine(nt s l A q _ v x).mono ?_;rw[hq];rintro e K ⟨rfl,rfl⟩)
     go_roundg k
     case measure=>omega
     case rel=>exact⟨k,rfl,y,by omega,rfl,rfl,aU (by have:=i.out;rw[aS y,if_neg (by simp[hq])]at this;exact this)⟩
   .have J:decide ((0:Int)<(k:Int))=false:=decide_eq_false (by omega);go_wp2_with fail
    go_ret
    refine⟨?_,rfl⟩;have h:=i.out;rw[aI (by omega)]at h;rw[<-h];rfl
def iF{i cnt:Value}{l:List ByteArray}(d:VZ w b i cnt j op l)(t:Nat)(f:op[op.length-1]? =some t):
 Calls tp 60 #[pt b] w fun e m=>e=.returned (pt t)/\eL w m:=by
 obtain⟨g,c,rfl,a⟩:=d.row;have h:=d.pos;have n:=d.le;have p:=d.dJ.cell 0;have q:=a _ t f;clear a f d;have o:op.length-1<op.length:=by omega
 have r:IntKind.i64.wrap ((op.length:Int)-1)=((op.length-1:Nat):Int):=by rw[bE _ (by omega)];omega
 generalize op.length-1=k at*;go_enter Tryz.func60,Tryz.ntmps60
 go_wp2_with fail
 go_quiet (fail)
 go_wp2_with fail
 go_ret
 exact⟨rfl,nq,rfl⟩
namespace ep
def ptr(p:Nat):Value:=pt p
structure Rec where
 kv:Value
 name:ByteArray
 text:ByteArray
 above:Value
 kids:List Nat
def Rec.arr(r:Rec):Array Value:=#[r.name,r.text,zn,r.above,r.kv]
def upS(S:Nat->Option Rec)(p:Nat)(r:Rec):Nat->Option Rec:=fun q=>if q=p then some r else S q
def lE(S:Nat->Option Rec)(p:Nat)(r:Rec):upS S p r p=some r:=by simp[upS]
def vW(S:Nat->Option Rec)(p:Nat)(r:Rec){q:Nat}(h:q≠p):upS S p r q=S q:=by simp[upS,h]
def zF(a b:Value):Prop:=a.ownBlock=none\/a.ownBlock≠b.ownBlock
structure H5(w:World)(B:Nat)(ov:Value)(S:Nat->Option Rec):Prop where
 node:∀p r,S p=some r->aE w p 92 r.arr
 kids:∀p r,S p=some r->w.ownsRow B 88 1 r.kv r.kids.length (r.kids.map ptr)
 iD:∀p r,S p=some r->zF r.kv ov
 apart:∀p q r s,S p=some r->S q=some s->p≠q->zF r.kv s.kv
 low:∀p r,S p=some r->B<=p
structure dD(w:World)(B b:Nat)(ov:Value)(op:List Nat)(cnt:Int)(S:Nat->Option Rec):Prop where
 dJ:aE w b 95 #[ov,cnt,false]
 low:B<=b
 own:w.ownsRow B 88 1 ov op.length (op.map ptr)
 nodes:H5 w B ov S
 ops:∀(i:Nat) p,op[i]? =some p->∃r,S p=some r/\r.above=(match i with|0=>.pointer none|j+1=>match op[j]? with|some q=>ptr q|none=>.pointer none)
 pos:0<op.length
 le:op.length<=50
def dC(S:Nat->Option Rec)(op:List Nat):List ByteArray:=op.map fun p=>match S p with|some r=>r.name|none=>eQ
def dD.size{w:World}{B b:Nat}{j:Value}{op:List Nat}{cnt:Int}{S:Nat->Option Rec}(h:dD w B b j op cnt S):B<=w.heap.size:=by
 have:=h.dJ.lt;have:=h.low;omega
def H5.keep{w':World}{S:Nat->Option Rec}(h:H5 w B C S)(D:∀k,k<w.heap.size->w'.heap[k]? =w.heap[k]?):H5 w' B C S:=
 ⟨fun p r j=>(D p (h.node p r j).lt).trans (h.node p r j),fun p r j=>aZ (h.kids p r j) (fun g _ A=>D g A),h.iD,h.apart,h.low⟩
def dD.keep{w w':World}{B b:Nat}{C:Value}{op:List Nat}{cnt:Int}{S:Nat->Option Rec}(h:dD w B b C op cnt S)(j:∀k,k<w.heap.size->w'.heap[k]? =w.heap[k]?):dD w' B b C op cnt S:=
 ⟨(j b h.dJ.lt).trans h.dJ,h.low,aZ h.own (fun g _ A=>j g A),h.nodes.keep j,h.ops,h.pos,h.le⟩
def dD.under{j:World}{S:Nat->Option Rec}(h:dD w B b A op cnt S)(C:Below w w j):dD j B b A op cnt S:=h.keep C.block
def dD.drawn{w':World}{S:Nat->Option Rec}(h:dD w B b j op cnt S)(A:eL w w'):dD w' B b j op cnt S:=h.keep fun k _=>by rw[A.heap]
def dD.opAt{S:Nat->Option Rec}(h:dD w B b A op cnt S):VZ w b A cnt false op (dC S op) where
 dJ:=h.dJ
 len:=by simp[dC]
 pos:=h.pos
 le:=ba h.le (by decide)
 row:=by
  obtain⟨g,c,rfl,_,_,_⟩:=dL h.own h.pos;refine⟨g,c,rfl,fun i p j=>?_⟩;have:=h.own.cells (g:=g) rfl i (ptr p) (by simp[j]);rwa[Addr.add_mid,bc]at this
 name:=fun i p s j C=>by
  obtain⟨r,D,_⟩:=h.ops i p j;have:s=r.name:=by
   simp only[dC,ai,j,Option.map_some,D,Option.some.injEq]at C;exact C.symm
  subst this;exact(h.nodes.node p r D).cell 0
def V0{a:Nat}{A:Option Addr}{d:List Value}(h:w.ownsRow a e 1 (.slice A n c) n d)(s:i<=n)(t:0<n):w.ownsRow a e 1 (.slice A i c) i (d.take i):=by
 have j:=h.1;refine⟨by rw[aN,j];omega,?_⟩;rcases h.2 with⟨f,u⟩|⟨g,cap,b,f,k,l,v,m,o,p⟩
 .omega
 .injection f with q x r;subst q r;refine .inr ⟨g,c,b,rfl,k,l,by omega,m,o,?_⟩;rw[<-p,List.take_take]
  congr 1
  omega
def jL(op:List Nat)(i:Int):List Nat:=if 0<i then op.take i.toNat else op
end ep
def zG{t:Value}{S:Nat->Option Rec}(h:dD w B b t op cnt S)(i:Nat)(C:0<i)(u:i<=op.length):
 Calls tp 71 #[ptr b,i] w fun e s=>e=rQ/\Below B w s/\∃n,dD s B b n (op.take i) cnt S:=by
 have v:=h.le;obtain⟨g,c,rfl,D,E,x⟩:=dL h.own h.pos;have F:=h.dJ.cell 0;have G:=h.dJ.free 0;have d:=h.low;have I:i<=c:=by omega
 have H:=aU h;have k:=h.pos;unfold ptr;go_enter Tryz.func71,Tryz.ntmps71
 go_wp2_with fail
 have y:=H.out.dJ.put 0 (g,i,c);have hC:fp b w (w.setCell b (g,i,c)):=fp.setCell w b (g,i,c);refine cP (cL rfl _ _ _) rfl ⟨rfl,hC.below (show B<=b from d),(g,i,c),y,d,?_,?_,?_,by simp;omega,by simp;omega⟩
 .have l:=V0 H.out.own u k;rw[<-Dh]at l;have e:(op.take i).length=i:=by simp;omega
  rw[e];refine aZ l (fun q hq _=>hC.other q fun e=>?_);exact fM H.out.dJ H.out.own (by decide) (by rw[<-e];exact hq.symm)
 .have f:=H.out.nodes;have o:∀p r,S p=some r->p≠b:=fun p r a e=>by subst e;have:=(f.node p r a).symm.trans H.out.dJ;simp at this
  refine⟨fun p r a=>(f.node p r a).dA hC (o p r a),fun p r a=>aZ (f.kids p r a) (fun q hq _=>hC.other q fun e=>fM H.out.dJ (f.kids p r a) (by decide) (by rw[<-e];exact hq.symm)),fun p r a=>f.iD p r a,f.apart,f.low⟩
 .intro j p m;rw[br]at m;split at m
  .next z=>
   obtain⟨r,l,A⟩:=H.out.ops j p m;refine⟨r,l,?_⟩;rw[A];cases j with
   |zero=>rfl
   |succ j=>simp only[br,aS (show j<i by omega)]
  .cases m
def kU{m:Value}{S:Nat->Option Rec}(h:dD w B b m op cnt S)(a:Int)(name:ByteArray)(o:0<=a)(p:a<=1000)(i:Int)(q:ju (dC S op) a name op.length=i)(r:i<=op.length):
 Calls tp 66 #[ptr b,a,name] w fun e n=>e=rQ/\Below B w n/\∃c,dD n B b c (jL op i) cnt S:=by
 have d:(dC S op).length=op.length:=by simp[dC]
 unfold ptr;go_enter Tryz.func66,Tryz.ntmps66
 go_upto_region 1 with(go_at_call 70;refine(Cw h.opAt a name o p).mono ?_;rw[d,q];rintro e t ⟨rfl,rfl⟩)
 by_cases f:0<i
 .have s:decide ((0:Int)<i)=true:=bf f;obtain⟨k,rfl⟩:∃k:Nat,i=k:=⟨i.toNat,by omega⟩;have u:=decide_eq_true (by omega);have g:jL op (k:Int)=op.take k:=by unfold jL;rw[aS f,Int.toNat_natCast]
  go_wp2_with (go_at_call 71;refine(zG h k (by omega) (by omega)).mono ?_;rintro e v ⟨rfl,j,c,l⟩)
  exact cP (cL rfl _ _ _) rfl ⟨rfl,j,c,by rw[g];exact l⟩
 .have s:decide ((0:Int)<i)=false:=aA f;have g:jL op i=op:=by unfold jL;rw[aI f]
  go_wp2_with fail
  exact cP (cL rfl _ _ _) rfl ⟨rfl,Below.refl _ _,m,by first|exact h|(rw[g];exact h)⟩
namespace ep
structure Grown(w:World)(B b:Nat)(ov:Value)(op:List Nat)(cnt:Int)(S:Nat->Option Rec)(c:Nat)(kv:Value):Prop where
 dJ:aE w b 95 #[ov,cnt,false]
 own:w.ownsRow B 88 1 ov op.length (op.map ptr)
 node:∀p r,S p=some r->aE w p 92 r.arr
 kids:∀p r,S p=some r->p≠c->w.ownsRow B 88 1 r.kv r.kids.length (r.kids.map ptr)/\zF r.kv kv/\zF kv r.kv
 iD:zF kv ov
 aaG:∀p r,S p=some r->zF r.kv ov
 apart:∀p q r s,S p=some r->S q=some s->p≠q->zF r.kv s.kv
 low:∀p r,S p=some r->B<=p
 aaH:B<=b
 ops:∀(i:Nat) p,op[i]? =some p->∃r,S p=some r/\r.above=(match i with|0=>.pointer none|j+1=>match op[j]? with|some q=>ptr q|none=>.pointer none)
 pos:0<op.length
 le:op.length<=50
def zF.fresh{v u:Value}{A:List Value}(h:zF u v)(C:w.ownsRow B e 1 u n A)(D:jq w v j):zF u j:=gA C D h
def zF.symm{a b:Value}(h:zF a b):b.ownBlock=none\/b.ownBlock≠a.ownBlock:=by
 rcases h with h|h
 .cases j:b.ownBlock with
  |none=>exact .inl rfl
  |some g=>right;rw[h];simp
 .exact .inr (Ne.symm h)
def dD.grow{I:World}{L:Value}{S:Nat->Option Rec}{j:Rec}{O:List Value}(h:dD w B b L op cnt S)(C:S c=some j)
 (P:I.ownsRow B 88 1 A n O)(E:w.grownBy I j.kv.ownBlock)(M:jq w j.kv A):Grown I B b L op cnt S c A where
 dJ:=h.dJ.grown (h.nodes.kids c j C) E (by decide)
 own:=gO h.own E (h.nodes.iD c j C).symm
 node:=fun p r D=>(h.nodes.node p r D).grown (h.nodes.kids c j C) E (by decide)
 kids:=fun p r D J=>by
  have H:=h.nodes.apart p c r j D C J;have N:=H.fresh (h.nodes.kids p r D) M;exact⟨gO (h.nodes.kids p r D) E H,N,N.symm⟩
 iD:=by
  have H:=(h.nodes.iD c j C).symm;exact zF.symm (zF.fresh H h.own M)
 aaG:=h.nodes.iD
 apart:=h.nodes.apart
 low:=h.nodes.low
 aaH:=h.low
 ops:=h.ops
 pos:=h.pos
 le:=h.le
def dD.other{w D:World}{B b:Nat}{E:Value}{op:List Nat}{cnt:Int}{S:Nat->Option Rec}{x:Nat}{H:Array Value}(h:dD w B b E op cnt S)(A:aE w x 92 H)(I:S x=none)(hC:fp x w D):dD D B b E op cnt S where
 dJ:=h.dJ.dA hC (fun e=>by subst e;have:=A.symm.trans h.dJ;simp at this)
 low:=h.low
 own:=aZ h.own (fun g C _=>hC.other g fun e=>fM A h.own (by decide) (by rw[<-e];exact C.symm))
 nodes:=⟨fun p r j=>(h.nodes.node p r j).dA hC (fun e=>by rw[e,I]at j;cases j),fun p r j=>aZ (h.nodes.kids p r j) (fun g C _=>hC.other g fun e=>fM A (h.nodes.kids p r j) (by decide) (by rw[<-e];exact C.symm)),h.nodes.iD,h.nodes.apart,h.nodes.low⟩
 ops:=h.ops
 pos:=h.pos
 le:=h.le
def dD.count{S:Nat->Option Rec}(h:dD w B b C op cnt S)(n:Int):dD (w.setCell (b,1) n) B b C op n S:=by
 have hC:fp b w (w.setCell (b,1) n):=fp.setCell w (b,1) n;exact⟨h.dJ.put 1 _,h.low,aZ h.own (fun g A _=>hC.other g fun e=>fM h.dJ h.own (by decide) (by rw[<-e];exact A.symm)),⟨fun p r j=>(h.nodes.node p r j).dA hC (fun e=>by subst e;have:=(h.nodes.node p r j).symm.trans h.dJ;simp at this),fun p r j=>aZ (h.nodes.kids p r j) (fun g A _=>hC.other g fun e=>fM h.dJ (h.nodes.kids p r j) (by decide) (by rw[<-e];exact A.symm)),h.nodes.iD,h.nodes.apart,h.nodes.low⟩,h.ops,h.pos,h.le⟩
def dD.deep{S:Nat->Option Rec}(h:dD w B b C op cnt S):dD (w.setCell (b,2) false) B b C op cnt S:=by
 have hC:fp b w (w.setCell (b,2) false):=fp.setCell w (b,2) false;exact⟨h.dJ.put 2 _,h.low,aZ h.own (fun g A _=>hC.other g fun e=>fM h.dJ h.own (by decide) (by rw[<-e];exact A.symm)),⟨fun p r j=>(h.nodes.node p r j).dA hC (fun e=>by subst e;have:=(h.nodes.node p r j).symm.trans h.dJ;simp at this),fun p r j=>aZ (h.nodes.kids p r j) (fun g A _=>hC.other g fun e=>fM h.dJ (h.nodes.kids p r j) (by decide) (by rw[<-e];exact A.symm)),h.nodes.iD,h.nodes.apart,h.nodes.low⟩,h.ops,h.pos,h.le⟩
def zF.Rl(b:Value):zF zn b:=.inl rfl
def zF.abD(a:Value):zF a zn:=by
 cases j:a.ownBlock with
 |none=>exact .inl j
 |some g=>right;rw[j];simp[Value.ownBlock]
def jb(S:Nat->Option Rec)(x c:Nat)(d b:Rec)(a:Value):Nat->Option Rec:=upS (upS S c {b with kids:=b.kids++[x],kv:=a}) x {d with above:=ptr c}
def Grown.put{w:World}{B b:Nat}{ov:Value}{op:List Nat}{cnt:Int}{S:Nat->Option Rec}{x c:Nat}{J E:Rec}{A:Value}(h:Grown w B b ov op cnt S c A)(V:S c=some E)(hk:w.ownsRow B 88 1 A (E.kids.length+1) (E.kids.map ptr++[ptr x]))
 (hX:aE w x 92 (Rec.arr {J with above:=ptr c}))(X:J.kids=[])(I:J.kv=zn)(M:S x=none)(Y:B<=x):dD (w.setCell (c,4) A) B b ov op cnt (jb S x c J E A):=by
 have R:x≠c:=fun e=>by rw[e,V]at M;cases M
 have hC:fp c w (w.setCell (c,4) A):=fp.setCell w (c,4) A;have N:=h.node c E V;have T:jb S x c J E A x=some {J with above:=ptr c}:=lE _ _ _;have Q:jb S x c J E A c=some {E with kids:=E.kids++[x],kv:=A}:=by unfold jb;rw[vW _ _ _ (Ne.symm R),lE]
 have L:∀p,p≠x->p≠c->jb S x c J E A p=S p:=fun p O W=>by unfold jb;rw[vW _ _ _ O,vW _ _ _ W]
 have H:∀{n:Nat} {v:Value} {xs:List Value},w.ownsRow B 88 1 v n xs->(w.setCell (c,4) A).ownsRow B 88 1 v n xs:=fun ho=>aZ ho (fun g hg _=>hC.other g fun e=>fM N ho (by decide) (by rw[<-e];exact hg.symm));refine⟨h.dJ.dA hC (fun e=>by subst e;have:=N.symm.trans h.dJ;simp at this),h.aaH,H h.own,⟨fun p r j=>?_,fun p r j=>?_,fun p r j=>?_,fun p q r s j hq P=>?_,fun p r j=>?_⟩,fun i p hi=>?_,h.pos,h.le⟩
 .by_cases D:p=x
  .subst D;rw[T]at j;cases j;exact hX.dA hC R
  .by_cases C:p=c
   .subst C;rw[Q]at j;cases j;exact N.put 4 A
   .rw[L p D C]at j;exact(h.node p r j).dA hC C
 .by_cases D:p=x
  .subst D;rw[T]at j;cases j;simp only[X,I];exact dl _ _ _ _
  .by_cases C:p=c
   .subst C;rw[Q]at j;cases j;have:=H hk;simpa using this
   .rw[L p D C]at j;exact H (h.kids p r j C).1
 .by_cases D:p=x
  .subst D;rw[T]at j;cases j;simp only[I];exact zF.Rl _
  .by_cases C:p=c
   .subst C;rw[Q]at j;cases j;exact h.iD
   .rw[L p D C]at j;exact h.aaG p r j
 .by_cases D:p=x
  .subst D;rw[T]at j;cases j;simp only[I];exact zF.Rl _
  .by_cases Z:q=x
   .subst Z;rw[T]at hq;cases hq;simp only[I];exact zF.abD _
   .by_cases C:p=c
    .subst C;rw[Q]at j;cases j;rw[L q Z (Ne.symm P)]at hq;exact(h.kids q s hq (Ne.symm P)).2.2
    .rw[L p D C]at j;by_cases e4:q=c
     .subst e4;rw[Q]at hq;cases hq;exact(h.kids p r j C).2.1
     .rw[L q Z e4]at hq;exact h.apart p q r s j hq P
 .by_cases D:p=x
  .subst D;exact Y
  .by_cases C:p=c
   .subst C;exact h.low p E V
   .rw[L p D C]at j;exact h.low p r j
 .obtain⟨r,O,W⟩:=h.ops i p hi;by_cases D:p=x
  .subst D;rw[M]at O;cases O
  .by_cases C:p=c
   .subst C;rw[V]at O;cases O;exact⟨_,Q,W⟩
   .exact⟨r,(L p D C).trans O,W⟩
end ep
def mJ:(Tryz.prog.info? 88).map (fun i=>(i.zero,i.size,i.bytes))=some (some (.pointer none),1,8):=by kernel_rfl
def uA{w0:World}{ov:Value}{S:Nat->Option Rec}(h:dD w B b ov op cnt S)(ip:Below B w0 w)(x c:Nat)(P d:Rec)(hx:aE w x 92 P.arr)(i8:P.kids=[])(jp:P.kv=zn)(Q:S x=none)(R:B<=x)
 (hop:op[op.length-1]? =some c)(u:S c=some d)(WF:0<=cnt)(UV:cnt<=3000)(WP:d.kids.length<=1000):
 Calls tp 64 #[pt b,pt x,.pointer none] w fun e w'=>e=rQ/\Below B w0 w'/\∃T,dD w' B b ov op (cnt+1) (jb S x c P d T):=by
 have he:∀w,(binOp .eql 88 (.pointer none) (.pointer none)).run tp w=.ok true w:=fun w=>by kernel_rfl
 have hle:=h.le;have U:=h.pos;obtain⟨i0,hi,lw,mp,n6⟩:=info_parts mJ;go_enter Tryz.func64,Tryz.ntmps64
 go_upto_region 1 with fail
 go_wp2_with (go_at_call 60;refine(iF h.opAt c hop).mono ?_;rintro e w1 ⟨rfl,y⟩;have V:=h.drawn y;have n:=hx.drawn y;have W:Below B w0 w1:=ip.trans (y.below _);have q1:=n.cell 3;have q2:=n.free 3;unfold Rec.arr at q1)
 have X:=n.put 3 (pt c);have G:=fp.setCell w1 (x,3) (pt c);have o:=V.other n Q G;have Y:=W.trans (G.below R);clear V n W q1 q2 G y;generalize w1.setCell (x,3) (pt c)=i at*;have H:=X;refine a8 ?_;refine dW (S:=fun Z:World=>Z.cell? (x,3)=pt c/\Z.cell? (c,4)=some d.kv) 16 [1,1,1,1,1,1,1,1,1,1,1,1,0,0,1,1,0] (by kernel_rfl) (fun _ _ _ _ _ h=>h) (⟨H.drew.cell 3,(o.drawn ((eL.refl i).drew)).nodes.node c d u|>.cell 4⟩) (fun pm=>?_);simp only[osq,fL,aF,ap];iterate 12 (apply cU;rfl;(intro w qr;go_simp;try(with_reducible rfl));simp only[Act.put,zA,zB,zC])
 refine cC rfl rfl (fun K E=>?_);refine gK (v:=(i.drew.heap.size,1,1)) (w':=(i.drew.alloc (.cells #[pt x] 88))) (by kernel_rfl) ?_;have I:=H.drew.alloc (.cells #[pt x] 88);have a:=(o.drawn ((eL.refl i).drew)).keep (w':=(i.drew.alloc (.cells #[pt x] 88))) (fun k hk=>by first|exact aG _ _ _ hk|exact aG _ _ hk);have am:=df (aE.new i.drew 88 #[pt x]) (news:=[pt x]) rfl;have a5:Below B w0 (i.drew.alloc (.cells #[pt x] 88)):=(Y.trans ((Below.refl B i).drew)).alloc o.size (.cells #[pt x] 88);have hgn:i.drew.heap.size=i.heap.size:=rfl;simp only[Act.put,zA,zB,zC];refine E.out _ _ (⟨I.cell 3,(a.nodes.node c d u).cell 4⟩) (fun _=>?_);clear E K;refine cC rfl rfl (fun K E=>?_);refine du (i.drew.alloc (.cells #[pt x] 88)) _ _ 90 rfl B 88 i0 (.pointer none) 1 8 Tryz.underlying90 hi lw mp n6 rfl (by decide) d.kv d.kids.length _ rfl (a.nodes.kids c d u) i.drew.heap.size 1 1 [pt x] rfl rfl am (by simp[Value.oneCell']) (by unfold maxLen;omega) (by omega) a.size ?_;intro T w4 z s a9;have J:=I.grown (a.nodes.kids c d u) s (by decide);have A:=(a.nodes.node c d u).grown (a.nodes.kids c d u) s (by decide);have em:=a.grow u z s a9;have eq:=dw a5 (a.nodes.kids c d u) s (Nat.le_refl _) a.size;simp only[Act.put,zA,zB,zC];refine E.out _ _ (⟨J.cell 3,A.cell 4⟩) (fun _=>?_);clear E K;iterate 2 (apply cU;rfl;(intro w qr;go_simp;try(with_reducible rfl));simp only[Act.put,zA,zB,zC])
 refine lW rfl rfl (fun K E=>?_);have q1:=A.cell 4;have q2:=A.free 4;obtain⟨A4,c4,rfl,-⟩:=aV z;go_simp
 (try simp only[Act.put,zA,zB,zC])
 refine E.out _ _ ?_;clear E K;refine fA (a7 ?_);have L:=o.nodes.low c d u;have t:=em.put u z J i8 jp Q R;have ge:=fp.setCell w4 (c,4) (.slice A4 (d.kids.length+1) c4);have g7:=eq.trans (ge.below L);clear ge em z J A eq a9 s o Y X H pm a I a5 am q1 q2;generalize w4.setCell (c,4) (.slice A4 (d.kids.length+1) c4)=w5 at*;generalize g8:jb S x c P d (.slice A4 (d.kids.length+1) c4)=S' at*;have rg:=t.dJ.cell 1;have un:=t.dJ.free 1;have e1:IntKind.i64.wrap (cnt+1)=cnt+1:=IntWalk.i64_in _ (by omega);have M:=t.low;go_upto_region 6 with fail
 have f:=t.count (cnt+1);have ii:=fp.setCell w5 (b,1) (.int .i64 (cnt+1));have ut:=g7.trans (ii.below M);clear t g7 ii rg un;generalize w5.setCell (b,1) (.int .i64 (cnt+1))=w6 at*;obtain⟨l,hl⟩:∃l:List Nat,x::op.reverse=l:=⟨_,rfl⟩;have hln:l.length=op.length+1:=by rw[<-hl];simp
 have io:∀(j:Nat) p,l[j]? =some p->w6.cell? (p,3)=some (match l[j+1]? with|some q=>ptr q|none=>.pointer none):=by
  intro j p F;rw[<-hl]at F|-;cases j with
  |zero=>
   simp at F;subst F;have wl:S' x=some {P with above:=ptr c}:=by rw[<-g8];exact lE _ _ _
   have:=(f.nodes.node x _ wl).cell 3;rw[this];have h1:op.reverse[0]? =some c:=by rw[xH U];simpa using hop
   simp only[ap,bc,h1];rfl
  |succ j=>
   simp only[ap]at F|-;have N:j<op.length:=by have:=(aa.1 F).1;simpa using this
   rw[xH N]at F;obtain⟨r,h1,h2⟩:=f.ops _ p F;have:=(f.nodes.node p r h1).cell 3;rw[this];show some r.above=_;rw[h2]
   congr 1
   by_cases wn:j+1<op.length
   .rw[xH wn];obtain⟨m,hm⟩:∃m,op.length-1-j=m+1:=⟨op.length-2-j,by omega⟩;rw[hm];have:op.length-1-(j+1)=m:=by omega
    rw[this]<;>(dsimp only;try(cases op[m]? <;>rfl))
   .have h3:op.length-1-j=0:=by omega
    rw[h3];have h4:op.reverse[j+1]? =none:=List.getElem?_eq_none (by simp;omega);rw[h4]
 have ww:=aU io;clear io;have h0:l[0]? =some x:=by rw[<-hl];rfl
 have cb2:w6.cell? (b,2)=false:=f.dJ.cell 2;have fb2:=f.dJ.free 2;have O:=f.low;clear hl;have hne:∀(p:Nat) w,(binOp .neq 88 (.pointer (some ⟨p,0,none⟩)) (.pointer none)).run tp w=.ok true w:=fun p w=>by kernel_rfl
 have hnn:∀w,(binOp .neq 88 (.pointer none) (.pointer none)).run tp w=.ok false w:=fun w=>by kernel_rfl
 go_wp2_with fail
 go_loopg [6,7] (op.length+1) (fun g s6 s7 wr=>∃j:Nat,g=op.length+1-j/\j<=op.length+1/\s6=j/\s7=(match l[j]? with|some q=>ptr q|none=>.pointer none)/\wr=w6)
 case atStart=>exact⟨0,rfl,Nat.zero_le _,rfl,by rw[h0];rfl,rfl⟩
 case round=>
  obtain⟨j,rfl,F,rfl,C,rfl⟩:=hrel;by_cases Do:j<op.length+1
  .obtain⟨p,hp⟩:∃p,l[j]? =some p:=⟨l[j],List.getElem?_eq_getElem (by omega)⟩;rw[hp]at C;subst C;have cp:=ww.out j p hp;obtain⟨nv,D⟩:∃nv,(match l[j+1]? with|some q=>ptr q|none=>Value.pointer none)=nv:=⟨_,rfl⟩;rw[D]at cp;replace D:=aU D;have e9:IntKind.i64.wrap ((j:Int)+1)=((j+1:Nat):Int):=by rw[bE _ (by omega)];omega
   unfold ptr;clear hp;go_wp2_with fail
   go_roundg (op.length+1-(j+1))
   case measure=>omega
   case rel=>exact⟨j+1,rfl,Do,by first|rfl|(rw[e9]),D.out.symm,rfl⟩
  .have N:j=op.length+1:=by omega
   subst N;have hp:l[op.length+1]? =none:=List.getElem?_eq_none (by omega);rw[hp]at C;subst C;have e6:decide ((256:Int)<(op.length:Int)+1)=false:=aA (by omega);go_wp2_with fail
   have H1:=f.deep;have In:fp b wr (wr.setCell (b,2) false):=fp.setCell wr (b,2) false;exact cP (cL rfl _ _ _) rfl ⟨rfl,ut.trans (In.below O),_,by rw[g8];exact H1⟩
