/- part of topCells.proved -/
import Derived.Test.YtkkiefcapbddkaaGreatDoorKa
set_option linter.all false
set_option maxRecDepth 1000000
set_option maxHeartbeats 0
noncomputable section
namespace Go.Proofs.YtkkiefcapbddkaaGreatDoor
variable{a:Act}{listed:Array Bool}{A:Array Value}{Q:Exit->Act->World->Prop}{b r x:List Int}{c l:List Oper}{B g i j k n size:Nat}{o op:Oper}{e t:TypeId}{v:Value}{w:World}
section
namespace Ord
variable{P:Program}{ops:Array Oper}{Q:Exit->Act->World->Prop}{md:Region.Mode}{S:World->Prop}
def RW(P:Program)(ops:Array Oper)(Q:Exit->Act->World->Prop)(S:World->Prop):List (Nat×Option Oper×Bool)->Act->World->Prop
 |[],a,w=>Q .normal a w
 |(_,some b,true)::r,a,w=>∃v,YieldsIf P ops S b v a/\RW P ops Q S r (a.put b.dst v) w
 |(i,some _,false)::r,a,w=>wpOp P ops Q i (fun d c=>S c/\RW P ops Q S r d c) a w
 |(_,none,_)::_,_,_=>False
def take{r:List (Nat×Option Oper×Bool)}{b:Oper}(c:YieldsIf P ops S b v a)(h:RW P ops Q S r (a.put b.dst v) w):RW P ops Q S ((i,some b,true)::r) a w:=
 ⟨v,c,h⟩
def done(h:Q .normal a w):RW P ops Q S [] a w:=h
end Ord
end
section
namespace Ord
inductive Tree
 |nil
 |one(i:Nat)(b:Bool)(r:Tree)
 |two(i:Nat)(r:Tree)(j:Nat)(s:Tree)
variable{P:Program}{ops:Array Oper}{Q:Exit->Act->World->Prop}{md:Region.Mode}{S:World->Prop}
def Tree.depth:Tree->Nat
 |.nil=>0
 |.one _ _ r=>r.depth+1
 |.two _ r _ s=>max r.depth s.depth+1
inductive KA
 |nil
 |one(i:Nat)(o:Option Oper)(b:Bool)(r:KA)
 |two(i:Nat)(o:Option Oper)(r:KA)(j:Nat)(p:Option Oper)(s:KA)
def fL(l:List Oper):Tree->KA
 |.nil=>.nil
 |.one i b r=>.one i l[i]? b (fL l r)
 |.two i r j s=>.two i l[i]? (fL l r) j l[j]? (fL l s)
end Ord
end
section
namespace Ord
variable{P:Program}{ops:Array Oper}{Q:Exit->Act->World->Prop}{md:Region.Mode}{S:World->Prop}
def zq(P:Program)(md:Region.Mode)(ops:Array Oper)(Q:Exit->Act->World->Prop)(S:World->Prop)(n:Nat):Nat->Array Bool->Act->World->Prop
 |0,listed,a,w=>Region.ready md ops listed=[]/\Q .normal a w
 |b+1,listed,a,w=>(Region.ready md ops listed=[]->Q .normal a w)/\
  ∀i∈Region.ready md ops listed,wpOp P ops Q i (fun d c=>(i≠n->S c)/\zq P md ops Q S n b (listed.setIfInBounds i true) d c) a w
def Hv{n:Nat}:∀(b:Nat) (listed:Array Bool) (a:Act) (w:World),zq P md ops Q S n b listed a w->wpAny P md ops Q b listed a w
 |0,_,_,_,h=>h
 |b+1,_,_,_,h=>⟨h.1,fun i c=>wpOp_mono (fun d e f=>Hv b _ d e f.2) (h.2 i c)⟩
end Ord
end
section
namespace Ord
variable{P:Program}{ops:Array Oper}{Q:Exit->Act->World->Prop}{md:Region.Mode}{S:World->Prop}
def zr(md:Region.Mode)(ops:Array Oper)(n:Nat)(listed:Array Bool)(i:Nat):Bool:=
 Region.waitsFor md ops n i||(List.range ops.size).any fun m=>Region.waitsFor md ops n m&&Region.waitsFor md ops m i&& !listed.getD m true
def MR(f:Region.waitsFor md ops j i=true)(g:listed.getD i false=false):j∉Region.ready md ops listed:=fun h=>by
 obtain⟨_,n,c,b⟩:=mem_ready.1 h;obtain⟨k,a,e,l,m,d⟩:=Region.waitsFor_spec f;rw[c]at a;obtain rfl:=Option.some.inj a;have:=b e l m;rw[d,g]at this;cases this
def vS(c:Region.waitsFor md ops n i=true\/∃m,Region.waitsFor md ops n m=true/\Region.waitsFor md ops m i=true/\listed.getD m true=false)(d:listed.getD i true=false):n∉Region.ready md ops listed:=by
 have a:∀k:Nat,listed.getD k true=false->listed.getD k false=false:=fun k h=>by
  rcases cD k listed.size with b|b
  .simp[b]at h|-;exact h
  .simp[cV b]at h
 rcases c with h|⟨m,e,g,f⟩
 .exact MR h (a _ d)
 .exact MR e (a _ f)
end Ord
end
section
namespace Ord
variable{P:Program}{ops:Array Oper}{Q:Exit->Act->World->Prop}{md:Region.Mode}{S:World->Prop}
def zt(P:Program)(ops:Array Oper)(S:World->Prop)(o:Oper)(v:Value)(a:Act):Prop:=
 Region.wanted o (yielded ops a.tmps)=true/\∃f args,∀w,S w->(execOp a.eval o).run P w=.ok (.enter f args) w/\Calls P f args w (fun e b=>e=v/\w=b)
def Y(P:Program)(ops:Array Oper)(S:World->Prop)(o:Oper)(v:Value)(a:Act):Prop:=YieldsIf P ops S o v a\/zt P ops S o v a
def Y.wpOp{i:Nat}{o:Oper}{v:Value}{a:Act}(A:ops[i]? =some o)(j:Y P ops S o v a)
 {K:Act->World->Prop}{w:World}(B:S w)(h:K (a.put o.dst v) w):wpOp P ops Q i K a w:=by
 rcases j with j|⟨C,f,args,D⟩
 .exact j.wpOp A B h
 .unfold Go.wpOp;simp only[A];obtain⟨E,H⟩:=D w B;simp only[C,if_true,Oper.wp,E,Oper.upon];refine .inl (H.mono ?_);rintro e I ⟨rfl,rfl⟩;exact h
def Y.of_same{o:Oper}{v:Value}{a A:Act}(j:Y P ops S o v a)(B:execOp A.eval o=execOp a.eval o)
 (C:Region.wanted o (yielded ops A.tmps)=Region.wanted o (yielded ops a.tmps)):Y P ops S o v A:=by
 rcases j with j|j
 .exact .inl (j.of_same B C)
 .right;unfold zt at*;rw[B,C];exact j
def Ch{i l:Oper}(I:ops[j]? =some l)(y:i.apart ops l=true)
 (z:∀A b,i.op≠.select A b)(s:∀A b,l.op≠.select A b)
 (F:∀c a w,Q (.panic c) (a.put i.dst v) w->Q (.panic c) a w){K:Act->World->Prop}
 (m:Y P ops S i v a)(h:wpOp P ops Q j K (a.put i.dst v) w):
 wpOp P ops Q j (fun G B=>Y P ops S i v G/\K (G.put i.dst v) B) a w:=by
 obtain⟨C,q,H⟩:=Oper.apart_spec y;have g:∀(a:Act),Y P ops S i v a->∀u,Y P ops S i v (a.put l.dst u):=fun a m u=>
  m.of_same (execOp_put i z a l.dst u H) (wanted_put i a l.dst u H)
 have o:∀d,Y P ops S i v {a with defers:=d::a.defers}:=fun d=>m.of_same rfl rfl;unfold wpOp at*;simp only[I]at*;rw[wanted_put l a i.dst v C]at h;split
 .rename_i D;simp only[D,if_true]at h;rcases h with h|⟨k,p⟩;case inr=>exact .inr ⟨by unfold Oper.asks at*;rw[adL l s a i.dst v C]at k;exact k,p⟩
  refine .inl ?_;unfold Oper.wp at*;rw[adL l s a i.dst v C]at h;generalize (execOp a.eval l).run P w=r at*;cases r with
  |ok n B=>
   cases n<;>simp only[Oper.upon]at h|-;case value u=>exact⟨g a m u,by rw[<-sh a v u q];exact h⟩
   case skip=>exact⟨g a m _,by rw[<-sh a v undef q];exact h⟩
   case defer d=>
    refine⟨g _ (o d) _,?_⟩;rw[<-sh _ v undef q,<-Act.put_defers];exact h
   case enter f args=>
    refine Calls.mono h fun e E t=>?_;cases e with
    |returned u=>exact⟨g a m u,by rw[<-sh a v u q];exact t⟩
    |panicked c=>exact F _ _ _ t
    |outgrown=>exact t
   case row row args=>exact Rows.mono h fun u E t=>⟨g a m u,by rw[<-sh a v u q];exact t⟩
  |halt x B=>
   cases x<;>simp only[Oper.upon]at h|-;case panic u=>exact F _ _ _ h
 .rename_i D;simp only[D]at h;exact⟨g a m _,by rw[<-sh a v undef q];exact h⟩
def Ey(md:Region.Mode)(ops:Array Oper)(n i:Nat)(listed:Array Bool):Prop:=
 ops[n]? =none\/Region.waitsFor md ops n i=true\/∃m,Region.waitsFor md ops n m=true/\Region.waitsFor md ops m i=true/\listed.getD m true=false
def KB(b:Ey md ops n i listed)(c:listed.getD i true=false):n∉Region.ready md ops listed:=by
 rcases b with h|h
 .intro d;obtain⟨_,o,a,_⟩:=mem_ready.1 d;rw[h]at a;cases a
 .exact vS h c
def VG{s:Oper}(W:i≠n)(J:ops[i]? =some s)(q:∀(j:Nat) (o:Oper) z b,ops[j]? =some o->o.op≠.select z b)
 (X:∀c a w,Q (.panic c) (a.put s.dst v) w->Q (.panic c) a w):
 ∀(d:Nat) (listed:Array Bool) (a:Act) (w:World),
  Ey md ops n i listed->
  (∀j t,ops[j]? =some t->j≠i->listed.getD j true=false->(∀e∈t.after,Region.binds md e=true->e.on≠i)->s.apart ops t=true)->
  i∈Region.ready md ops listed->Y P ops S s v a->S w->
  zq P md ops Q S n d (listed.setIfInBounds i true) (a.put s.dst v) w->zq P md ops Q S n (d+1) listed a w:=by
 intro d;induction d with
 |zero=>
  intro listed a w _ _ l G A H;refine⟨fun h=>(by rw[h]at l;cases l),fun j y=>?_⟩;by_cases f:j=i
  .subst f;exact G.wpOp J A ⟨fun _=>A,H⟩
  .have:=yj y f;rw[H.1]at this;cases this
 |succ d ih=>
  intro listed a w T g l G A H;refine⟨fun h=>(by rw[h]at l;cases l),fun j y=>?_⟩;by_cases f:j=i
  .subst f;exact G.wpOp J A ⟨fun _=>A,H⟩
  .have u:=H.2 j (ready_mono y f);obtain⟨r,t,x,B⟩:=mem_ready.1 y;have C:∀e∈t.after,Region.binds md e=true->e.on≠i:=fun e Z hb K=>by
    have u:=B e Z hb;have U:=(mem_ready.1 l).1;rw[K]at u;rcases cD i listed.size with L|L
    .simp[L]at U u;rw[U]at u;cases u
    .simp[cV L]at u
   have D:j≠n:=by
    rintro rfl;exact KB T (mem_ready.1 l).1 y
   have h2:=Ch x (g j t x f r C) (fun z b=>q i s z b J) (fun z b=>q j t z b x) X G u;have p:∀k ok,ops[k]? =some ok->k≠i->(listed.setIfInBounds j true).getD k true=false->
    (∀e∈ok.after,Region.binds md e=true->e.on≠i)->s.apart ops ok=true:=fun k ok hk M E N=>by
    refine g k ok hk M ?_ N;by_cases F:j=k
    .subst F;exact r
    .rw[getD_set_ne true F]at E;exact E
   have O:Ey md ops n i (listed.setIfInBounds j true):=by
    rcases T with h|h|⟨m,m1,V,m3⟩
    .exact .inl h
    .exact .inr (.inl h)
    .refine .inr (.inr ⟨m,m1,V,?_⟩);have R:j≠m:=by
      rintro rfl;exact vS (.inl V) (mem_ready.1 l).1 y
     rw[getD_set_ne true R];exact m3
   refine mW (fun a' w' I=>⟨fun _=>I.2.1 D,ih (listed.setIfInBounds j true) a' w' O p (ready_mono l (Ne.symm f)) I.1 (I.2.1 D) ?_⟩) h2;rw[Xu _ _ f];exact I.2.2
def vT(P:Program)(ops:Array Oper)(Q:Exit->Act->World->Prop)(S:World->Prop)(n:Nat):KA->Act->World->Prop
 |.nil,a,w=>Q .normal a w
 |.one _ (some d) true r,a,w=>∃v,Y P ops S d v a/\vT P ops Q S n r (a.put d.dst v) w
 |.one i (some _) false r,a,w=>wpOp P ops Q i (fun c b=>(i≠n->S b)/\vT P ops Q S n r c b) a w
 |.two i (some _) r j (some _) s,a,w=>wpOp P ops Q i (fun c b=>(i≠n->S b)/\vT P ops Q S n r c b) a w/\wpOp P ops Q j (fun c b=>(j≠n->S b)/\vT P ops Q S n s c b) a w
 |_,_,_=>False
def RX(md:Region.Mode)(ops:Array Oper)(n:Nat):Tree->Array Bool->Bool
 |.nil,listed=>Region.ready md ops listed==[]
 |.one i true r,listed=>i !=n&&(ops.size<=n||zr md ops n listed i)&&Region.free md ops listed i&&(Region.ready md ops listed).contains i&&RX md ops n r (listed.setIfInBounds i true)
 |.one i false r,listed=>(Region.ready md ops listed==[i])&&(i !=n||(match r with|.nil=>true|_=>false))&&RX md ops n r (listed.setIfInBounds i true)
 |.two i r j s,listed=>i !=n&&j !=n&&(Region.ready md ops listed==[i,j])&&RX md ops n r (listed.setIfInBounds i true)&&RX md ops n s (listed.setIfInBounds j true)
def OL(R:Region.noSelect l.toArray=true)(T:∀(c:_) (a:Act) (d:Option Tmp) (v:Value) (w:World),Q (.panic c) (a.put d v) w->Q (.panic c) a w):∀(t:Tree) (e:Nat) (listed:Array Bool) (a:Act) (w:World),
 t.depth<=e->RX md l.toArray n t listed=true->(S w\/t=.nil)->vT P l.toArray Q S n (fL l t) a w->zq P md l.toArray Q S n e listed a w:=by
 intro t;induction t with
 |nil=>
  intro e listed a w _ f _ h;have x:Region.ready md l.toArray listed=[]:=by simpa[RX]using f
  cases e with
  |zero=>exact⟨x,h⟩
  |succ e=>exact⟨fun _=>h,by rw[x];simp⟩
 |one i b r ih=>
  intro e listed a w u f o h;replace o:S w:=by rcases o with o|o;exact o;cases o
  cases e with
  |zero=>simp[Tree.depth]at u
  |succ e=>
   have y:r.depth<=e:=by simp[Tree.depth]at u;omega
   cases p:l[i]? with
   |none=>cases b<;>simp[fL,p,vT]at h
   |some J=>
    cases b with
    |true=>
     simp only[fL,p,vT]at h;obtain⟨v,U,h⟩:=h;simp only[RX,ax,bne_iff_ne]at f;have z:l.toArray[i]? =some J:=by simpa using p
     have D:Ey md l.toArray n i listed:=by
      have:=f.1.1.1.2;rw[fQ]at this;rcases this with h1|h1
      .exact .inl (cV (by simpa using h1))
      .unfold zr at h1;rw[fQ]at h1;rcases h1 with h1|h1
       .exact .inr (.inl h1)
       .rw[adw]at h1;obtain⟨m,_,C⟩:=h1;rw[ax,ax]at C;refine .inr (.inr ⟨m,C.1.1,C.1.2,?_⟩);have K:=C.2;cases V:listed.getD m true
        .rfl
        .rw[V]at K;cases K
     exact VG f.1.1.1.1 z (Region.noSelect_spec R) (fun c a w hq=>T c a _ _ w hq) e listed a w D (Region.free_spec z f.1.1.2) (by simpa using f.1.2) U o (ih e _ _ _ y f.2 (.inl o) h)
    |false=>
     simp only[fL,p,vT]at h;simp only[RX,ax,fZ]at f;refine⟨fun A=>(by rw[f.1.1]at A;cases A),fun j q=>?_⟩;rw[f.1.1]at q;have:j=i:=by simpa using q
     subst this;refine mW (fun L M g=>⟨g.1,ih e _ _ _ y f.2 ?_ g.2⟩) h;by_cases B:j=n
     .right;have N:=f.1.2;simp only[B,bne_self_eq_false,Bool.false_or]at N;cases r<;>first|rfl|cases N
     .exact .inl (g.1 B)
 |two i r j s E F=>
  intro e listed a w u f o h;cases e with
  |zero=>simp[Tree.depth]at u
  |succ e=>
   have G:r.depth<=e:=by simp[Tree.depth]at u;omega
   have H:s.depth<=e:=by simp[Tree.depth]at u;omega
   cases p:l[i]? with
   |none=>cases q:l[j]? <;>simp[fL,p,q,vT]at h
   |some J=>
    cases q:l[j]? with
    |none=>simp[fL,p,q,vT]at h
    |some oj=>
     simp only[fL,p,q,vT]at h;simp only[RX,ax,fZ,bne_iff_ne]at f;obtain⟨⟨⟨⟨W,X⟩,x⟩,Y⟩,Z⟩:=f;refine⟨fun A=>(by rw[x]at A;cases A),fun k O=>?_⟩;rw[x]at O;have I:k=i\/k=j:=by simpa using O
     rcases I with rfl|rfl
     .exact mW (fun L M g=>⟨g.1,E e _ _ _ G Y (.inl (g.1 W)) g.2⟩) h.1
     .exact mW (fun L M g=>⟨g.1,F e _ _ _ H Z (.inl (g.1 X)) g.2⟩) h.2
def mI{id:Nat}(n:Nat)(t:Tree)(e:P.follows .mixedOrders=true)(f:Region.noSelect l.toArray=true)
 (g:RX .any l.toArray n t (Array.replicate l.toArray.size false)=true)(i:t.depth<=l.toArray.size)(j:∀(c:_) (a:Act) (d:Option Tmp) (v:Value) (w:World),Q (.panic c) (a.put d v) w->Q (.panic c) a w)(b:S w.drew)
 (h:S w.drew->vT P l.toArray Q S n (fL l t) a w.drew):(Code.region id l.toArray true).wp P Q a w:=
 wp_region_any e (Hv _ _ _ _ (OL f j t _ _ _ _ i g (.inl b) (h b)))
def osq:Nat->List Nat->Tree
 |_,[]=>.nil
 |i,x::a=>.one i (x !=0) (osq (i+1) a)
def dW{id:Nat}(n:Nat)(e:List Nat)(b:(P.follows .mixedOrders&&Region.noSelect l.toArray&&RX .any l.toArray n (osq 0 e) (Array.replicate l.toArray.size false)&&decide ((osq 0 e).depth<=l.toArray.size))=true)
 (f:∀(c:_) (a:Act) (d:Option Tmp) (v:Value) (w:World),Q (.panic c) (a.put d v) w->Q (.panic c) a w)(g:S w.drew)
 (h:S w.drew->vT P l.toArray Q S n (fL l (osq 0 e)) a w.drew):(Code.region id l.toArray true).wp P Q a w:=by
 simp only[ax,cI]at b;exact mI n _ b.1.1.1 b.1.1.2 b.1.2 b.2 f g h
def gT{r:KA}{b:Oper}(c:YieldsIf P ops S b v a)(h:vT P ops Q S n r (a.put b.dst v) w):vT P ops Q S n (.one i (some b) true r) a w:=⟨v,.inl c,h⟩
def cU{r:KA}{b:Oper}(c:Region.wanted b (yielded ops a.tmps)=true)(d:∀w,S w->(execOp a.eval b).run P w=.ok (.value v) w)(h:vT P ops Q S n r (a.put b.dst v) w):vT P ops Q S n (.one i (some b) true r) a w:=gT (.inl ⟨c,d⟩) h
def Ci{r:KA}{b:Oper}(f:FuncId)(args:Array Value)(d:Region.wanted b (yielded ops a.tmps)=true)(g:∀w,S w->(execOp a.eval b).run P w=.ok (.enter f args) w)
 (j:∀w,S w->Calls P f args w (fun e k=>e=v/\w=k))(h:vT P ops Q S n r (a.put b.dst v) w):vT P ops Q S n (.one i (some b) true r) a w:=
 ⟨v,.inr ⟨d,f,args,fun w c=>⟨g w c,j w c⟩⟩,h⟩
def cC{r:KA}(d:ops[i]? =some o)(e:Region.wanted o (yielded ops a.tmps)=true)
 (h:∀b:Act->World->Prop,Shut (∀a w,S w->(S w->vT P ops Q S n r a w)->b a w)->Oper.wp P o a w b Q):
 vT P ops Q S n (.one i (some o) false r) a w:=
 wpOp_step d (fun b f=>by rw[aS e];exact h b (fun a w c g=>f a w ⟨fun _=>c,g c⟩))
def OM{r s:KA}{p:Oper}(k:ops[i]? =some o)(l:Region.wanted o (yielded ops a.tmps)=true)(d:ops[j]? =some p)(e:Region.wanted p (yielded ops a.tmps)=true)
 (h:∀b:Act->World->Prop,Shut (∀a w,S w->(S w->vT P ops Q S n r a w)->b a w)->Oper.wp P o a w b Q)
 (m:∀b:Act->World->Prop,Shut (∀a w,S w->(S w->vT P ops Q S n s a w)->b a w)->Oper.wp P p a w b Q):
 vT P ops Q S n (.two i (some o) r j (some p) s) a w:=
 ⟨wpOp_step k (fun b f=>by rw[aS l];exact h b (fun a w c g=>f a w ⟨fun _=>c,g c⟩)),wpOp_step d (fun b f=>by rw[aS e];exact m b (fun a w c g=>f a w ⟨fun _=>c,g c⟩))⟩
def lW{r:KA}(d:ops[n]? =some o)(e:Region.wanted o (yielded ops a.tmps)=true)
 (h:∀b:Act->World->Prop,Shut (∀a w,vT P ops Q S n r a w->b a w)->Oper.wp P o a w b Q):
 vT P ops Q S n (.one n (some o) false r) a w:=
 wpOp_step d (fun b f=>by rw[aS e];exact h b (fun a w g=>f a w ⟨fun c=>absurd rfl c,g⟩))
def fA(h:Q .normal a w):vT P ops Q S n .nil a w:=h
end Ord
end
open Go.RowKit Mem
section
namespace Mem
structure fp(b:Nat)(w w':World):Prop where
 os:w'.os=w.os
 tape:w'.tape=w.tape
 output:w'.output=w.output
 size:w'.heap.size=w.heap.size
 other:∀g,g≠b->w'.heap[g]? =w.heap[g]?
def aE.dA{j:World}{b:Nat}(h:aE w g t A)(B:fp b w j)(C:g≠b):aE j g t A:=(B.other g C).trans h
def fp.below{A:World}{b:Nat}(j:fp b w A)(C:B<=b):Below B w A:=
 ⟨j.os,j.tape,j.output,by rw[j.size];exact ae _,fun g D=>j.other g (by omega)⟩
def fp.setCell(w:World)(p:Addr)(v:Value):fp p.block w (w.setCell p v):=
 ⟨rfl,rfl,rfl,by simp[World.setCell],fun g j=>heap_setCell_other w p g v j⟩
def setIfInBounds_append_left(l r:List Value)(x v:Value):((l++x::r).toArray).setIfInBounds l.length v=(l++v::r).toArray:=by
 apply Fx;simp
def oU(b:Nat)(t:TypeId):∀(f d a:List Value) (w:World),aE w b t (a++d).toArray->d.length=f.length->aE (w.setCells b a.length f) b t (a++f).toArray/\fp b w (w.setCells b a.length f)
 |[],d,a,w,h,j=>by
  cases d with
  |nil=>exact⟨h,rfl,rfl,rfl,rfl,fun _ _=>rfl⟩
  |cons=>simp at j
 |c::f,d,a,w,h,j=>by
  cases d with
  |nil=>simp at j
  |cons o d=>
   have k:=h.put a.length c;rw[setIfInBounds_append_left]at k;have e:=oU b t f d (a++[c]) (w.setCell (b,a.length) c) (by simpa using k) (by simpa using j);have i:=fp.setCell w (b,a.length) c;simp only[aO,aW,eJ,bC,et,dt]at e;refine⟨e.1,e.2.os.trans i.os,e.2.tape.trans i.tape,e.2.output.trans i.output,e.2.size.trans i.size,fun g l=>(e.2.other g l).trans (i.other g l)⟩
def aE.range{b:Nat}(h:aE w b t A):w.rangeAt b 0 A.toList:=by
 intro j v B;rw[bc,h.cell];simpa using B
variable{P:Program}
def MS{e:Array Oper}(i:Region.wanted op (yielded e a.tmps)=true)(f:TypeId)(x:Operand)(j:op.op=.load f x)
 (b:Nat)(k:a.eval x=pt b)(t:TypeId)(g:Array Value)(d:TypeDesc)(l:aE w b t g)
 (m:P.underlying f=some d)(n:d.isRow=true)(o:(P.info? f).map (·.size)=some g.size)
 (h:wpList P e Q c (a.put op.dst (.agg g)) w):wpList P e Q (op::c) a w:=
 BigFrame.wpList_want i fun _ p=>wp_load_mid f x j b 0 k g.toList d l.range m n (by simpa using o) (p _ _ (by simpa using h))
def uq{d:Array Oper}(l:Region.wanted op (yielded d a.tmps)=true)(f:TypeId)(x y:Operand)(m:op.op=.store f x y)
 (b:Nat)(cells:Array Value)(n:a.eval x=pt b)(o:a.eval y=.agg cells)
 (t:TypeId)(e:Array Value)(g:aE w b t e)(p:e.size=cells.size)(q:(P.info? f).map (·.size)=some cells.size)(r:cells.all (·.oneCell')=true)
 (h:∀i,aE i b t cells->fp b w i->wpList P d Q c (a.put op.dst undef) i):wpList P d Q (op::c) a w:=by
 have k:=oU b t cells.toList e.toList [] w (by simpa using g) (by simpa using p);refine pJ l fun _ s=>wp_store_mid f x y m b 0 cells n o ?_ q r (s _ _ (h _ (by simpa using k.1) (by simpa using k.2)));intro j u;rw[bc,g.cell];exact⟨by rw[dE (by omega)];rfl,g.free j⟩
def bM{c:Code}(S:World->Prop)(d:S w)(h:∀b,S b->Code.wp P c Q a b):Code.wp P c Q a w:=h w d
def lD{fn:Func}{a:Array Value}(s c b:Nat)(g:fn.results=#[.cell s c])(h:a.getD s undef=pt b){e:Array Value}(i:aE w b t e)
 (d:TypeDesc)(j:P.underlying c=some d)(k:d.isRow=true)(l:(P.info? c).map (·.size)=some e.size):(results fn a).run P w=.ok (.agg e) w:=by
 have m:=run_loadVar_mid (P:=P) w b 0 c e.toList d i.range j k (by simpa using l);have f:a[s]?.getD undef=pt b:=by simpa using h
 have n:(asAddr (pt b)).run P w=.ok b w:=rfl;simp[results,g,f,Sem.run_bind,m,n]
@[go_sem high] def Um (w:World) (b:Array TypeId) (t:TypeId) (k c a:IntKind) (x y z:Int):
 (Builtin.max_ b t #[.int k x,.int c y,.int a z]).run P w=.ok (.int k (max (max x y) z)) w:=by
 have e:(if z>(if y>x then y else x)then z else(if y>x then y else x))=max (max x y) z:=by
  simp only[Int.max_def];split<;>split<;>split<;>split<;>omega
 simp[Builtin.max_,Builtin.max2,e]
structure Stop(p:Prop):Prop where
 out:p
def dg{c:Array Oper}{b:List Oper}(d:TypeId)(x:Operand)(e:op.op=.load d x)(f:Region.wanted op (yielded c a.tmps)=true)
 (h:Stop (wpList P c Q (op::b) a w)):wpList P c Q (op::b) a w:=h.out
def dm{c:Array Oper}{b:List Oper}(d:TypeId)(x y:Operand)(e:op.op=.store d x y)(f:Region.wanted op (yielded c a.tmps)=true)
 (h:Stop (wpList P c Q (op::b) a w)):wpList P c Q (op::b) a w:=h.out
def abB(t:TypeId)(o:Op):Bool:=
 match o with
 |.load a _=>a==t
 |.store a _ _=>a==t
 |_=>false
def aX{c:Array Oper}{b:List Oper}(d:TypeId)(e:(abB d op.op&&Region.wanted op (yielded c a.tmps))=true)
 (h:Stop (wpList P c Q (op::b) a w)):wpList P c Q (op::b) a w:=h.out
def eu{e:Array Oper}{f:TypeId}{x:Operand}{b:Nat}{g:Array Value}{d:TypeDesc}(i:Region.wanted op (yielded e a.tmps)=true)(j:op.op=.load f x)
 (k:a.eval x=pt b)(l:aE w b t g)(m:P.underlying f=some d)(n:d.isRow=true)(o:(P.info? f).map (·.size)=some g.size)
 (h:wpList P e Q c (a.put op.dst (.agg g)) w):wpList P e Q (op::c) a w:=MS i f x j b k t g d l m n o h
def dK{d:Array Oper}{f:TypeId}{x y:Operand}{b:Nat}{e:Array Value}(cells:Array Value)(i:Region.wanted op (yielded d a.tmps)=true)(j:op.op=.store f x y)
 (k:a.eval x=pt b)(l:a.eval y=.agg cells)(m:aE w b t e)(n:e.size=cells.size)(o:(P.info? f).map (·.size)=some cells.size)(p:cells.all (·.oneCell')=true)
 (h:∀g,aE g b t cells->fp b w g->wpList P d Q c (a.put op.dst undef) g):wpList P d Q (op::c) a w:=uq i f x y j b cells k l t e m n o p h
def cR{c:Array Oper}{b:List Oper}(s x:Operand)(t d:TypeId)
 (e:op.op=.call {callee:=.builtin .append,args:=#[s,x],argTypes:=#[t,d]})
 (h:Stop (wpList P c Q (op::b) a w)):wpList P c Q (op::b) a w:=h.out
end Mem
end
section
namespace Mem
def ur(b:Nat)(t:TypeId)(post:List Value):∀(f d a:List Value) (w:World),aE w b t (a++d++post).toArray->d.length=f.length->aE (w.setCells b a.length f) b t (a++f++post).toArray/\fp b w (w.setCells b a.length f)
 |[],d,a,w,h,j=>by
  cases d with
  |nil=>exact⟨h,rfl,rfl,rfl,rfl,fun _ _=>rfl⟩
  |cons=>simp at j
 |c::f,d,a,w,h,j=>by
  cases d with
  |nil=>simp at j
  |cons o d=>
   have n:aE w b t (a++o::(d++post)).toArray:=by simpa using h
   have k:=n.put a.length c;rw[setIfInBounds_append_left]at k;have e:=ur b t post f d (a++[c]) (w.setCell (b,a.length) c) (by simpa using k) (by simpa using j);have i:=fp.setCell w (b,a.length) c;simp only[aO,aW,eJ,bC,et,dt]at e;refine⟨by have l:=e.1;simp only[bC,et]at l|-;exact l,e.2.os.trans i.os,e.2.tape.trans i.tape,e.2.output.trans i.output,e.2.size.trans i.size,fun g m=>(e.2.other g m).trans (i.other g m)⟩
variable{P:Program}
def bY{e:Array Oper}(i:Region.wanted op (yielded e a.tmps)=true)(f:TypeId)(x:Operand)(j:op.op=.load f x)
 (b o:Nat)(k:a.eval x=.pointer (b,o))(g:Array Value)(d:TypeDesc)(l:w.rangeAt b o g.toList)
 (m:P.underlying f=some d)(n:d.isRow=true)(p:(P.info? f).map (·.size)=some g.size)
 (h:wpList P e Q c (a.put op.dst (.agg g)) w):wpList P e Q (op::c) a w:=
 BigFrame.wpList_want i fun _ q=>wp_load_mid f x j b o k g.toList d l m n (by simpa using p) (q _ _ (by simpa using h))
section
variable{α:Type}{sz:Nat}{fl:α->List Value}
end
end Mem
end
namespace Mem
def Ez(w:World)(e:TypeId)(a:Array Value)(b:B<=w.heap.size)(c:a.size<=maxLen):(w.alloc (.cells a e)).ownsRow B e 1 (w.heap.size,a.size,a.size) a.size a.toList:=
 ⟨by simp,.inr ⟨w.heap.size,a.size,a,rfl,b,heap_alloc_new w _,ae _,c,by simp,by rw[iM,<-aH,bL]⟩⟩
def fM{c:Array Value}{d:List Value}(h:aE w g t c)(f:w.ownsRow B e size v n d)(i:t≠e):some g≠v.ownBlock:=by
 rcases f.2 with⟨rfl,_⟩|⟨k,cap,j,rfl,_,a,_⟩
 .simp[Value.ownBlock]
 .intro b;simp only[Value.ownBlock,aK]at b;subst b;rw[h]at a;simp only[aK,Obj.cells.injEq]at a;exact i a.2.1
def aE.grown{j:World}{C:List Value}(h:aE w g t A)(D:w.ownsRow B e size v n C)(E:w.grownBy j v.ownBlock)(H:t≠e):aE j g t A:=
 (E.block g h.lt (fM h D H)).trans h
def eo{b:World}{c:List Value}(d:w.ownsRow B e size v n c)(a:w.grownBy b v.ownBlock)(f:B<=w.heap.size):Below B w b:=
 ⟨a.os,a.tape,a.output,a.size,fun k g=>a.block k (by omega) (fun e=>by have:=(d.lt k e.symm).1;omega)⟩
def fS{a:List Value}(b:w.ownsRow B e size v n a):w.drew.ownsRow B e size v n a:=b
def VH{b:List Value}(a:w.ownsRow B e 1 v n b):∃A c,v=.slice A n c/\lV w w A b:=by
 rcases a.2 with⟨rfl,rfl⟩|⟨g,cap,f,rfl,_,h,_⟩
 .have:=a.1;simp at this;subst this;exact⟨none,0,rfl,lV.nil _ _ _⟩
 .refine⟨_,_,rfl,fun _=>⟨g,0,rfl,(Array.getElem?_eq_some_iff.1 h).1,fun j i=>?_⟩⟩;have d:=List.getElem?_eq_getElem i;rw[d];have:=a.cells (g:=g) rfl j _ d;rwa[Addr.add_mid]at this
end Mem
open Num Opn
namespace Num
def few(n:Int):Int:=if n<0 then-((-(n+1))% 16777216)else n % 16777216
structure It where
 base:Int
 outer:Int
 grow:Int
 shrink:Int
def It.cells(x:It):List Value:=[x.base,x.outer,x.grow,x.shrink]
def it(x:It):It:=⟨few x.base,few x.outer,x.grow,x.shrink⟩
end Num
def Cj:(Tryz.prog.info? 333).map (fun i=>(i.zero,i.size,i.bytes))=some (some (.agg #[zQ,zQ,zQ,zQ]),4,32):=by kernel_rfl
def df{a:Array Value}{news:List Value}(b:aE w g t a)(c:a.toList=news):∀j u,news[j]? =some u->w.cell? ((g:Addr).add j)=some u:=by
 intro j u d;rw[Addr.add_mid,b.cell,Nat.zero_add,<-az,c,d]
namespace Num
def wt(x:Int):Int:=clip x 0 65536
def fR(l:List Int):Nat->Int
 |0=>0
 |k+1=>fR l k+wt (l.getD k 0)
def EA(t:Int):Int:=clip t 0 70368744177664
def quo(t:Int)(l:List Int)(i:Nat):Int:=EA t*wt (l.getD i 0)/fR l l.length
def rem(t:Int)(l:List Int)(i:Nat):Int:=EA t*wt (l.getD i 0)% fR l l.length
def upto(f:Nat->Int)(n k:Nat):List Int:=(List.range n).map fun i=>if i<k then f i else 0
def left(t:Int)(l:List Int):Nat->Int
 |0=>EA t
 |k+1=>left t l k-quo t l k
def rO(r:List Int):Nat->Int
 |0=> -1
 |k+1=>if 0<=r.getD k 0/\(rO r k<0\/r.getD (rO r k).toNat 0<r.getD k 0)then k else rO r k
def Bp:Nat->List Int->List Int->List Int
 |0,x,_=>x
 |j+1,x,r=>Bp j (x.set (rO r r.length).toNat (x.getD (rO r r.length).toNat 0+1)) (r.set (rO r r.length).toNat (-1))
def ji(t:Int)(l:List Int):List Int:=
 if fR l l.length=0 then List.replicate l.length 0
 else Bp (left t l l.length).toNat (upto (quo t l) l.length l.length) (upto (rem t l) l.length l.length)
def Hw(x:Int):0<=wt x:=by unfold wt clip;omega
def XQ(x:Int):wt x<=65536:=by unfold wt clip;omega
def oV(l:List Int)(k:Nat):0<=fR l k:=by
 induction k with
 |zero=>simp[fR]
 |succ k ih=>have:=Hw (l.getD k 0);simp only[fR];omega
def MT(l:List Int)(k:Nat):fR l k<=65536*k:=by
 induction k with
 |zero=>simp[fR]
 |succ k ih=>have:=XQ (l.getD k 0);simp only[fR];omega
def ON(l:List Int)(h:j<=k):fR l j<=fR l k:=by
 induction k with
 |zero=>
  have:j=0:=by omega
  subst this;exact kG _
 |succ k ih=>
  rcases cD j (k+1)with h1|h1
  .have:=ih (by omega);have:=Hw (l.getD k 0);simp only[fR];omega
  .have:j=k+1:=by omega
   subst this;exact kG _
def EB(t:Int):0<=EA t:=by unfold EA clip;omega
def KC(t:Int):EA t<=70368744177664:=by unfold EA clip;omega
def RY(t:Int)(l:List Int)(i:Nat):0<=quo t l i:=Int.ediv_nonneg (ri (EB t) (Hw _)) (oV l _)
def RZ(t:Int)(l:List Int)(i:Nat)(h:fR l l.length≠0):0<=rem t l i:=Int.emod_nonneg _ h
def YW(t:Int)(l:List Int)(i:Nat)(h:fR l l.length≠0):rem t l i<fR l l.length:=Int.emod_lt_of_pos _ (by have:=oV l l.length;omega)
def VI(t:Int)(l:List Int)(i:Nat):quo t l i*fR l l.length+rem t l i=EA t*wt (l.getD i 0):=by
 unfold quo rem;rw[Int.mul_comm];exact aah _ _
def Bq(t:Int)(l:List Int):Nat->Int
 |0=>0
 |k+1=>Bq t l k+rem t l k
def left_eq(t:Int)(l:List Int)(k:Nat):left t l k*fR l l.length=EA t*(fR l l.length-fR l k)+Bq t l k:=by
 induction k with
 |zero=>simp[left,fR,Bq]
 |succ k ih=>
  have h:=VI t l k;simp only[left,fR,Bq];rw[Int.sub_mul,ih];have e:EA t*(fR l l.length-(fR l k+wt (l.getD k 0)))=EA t*(fR l l.length-fR l k)-EA t*wt (l.getD k 0):=by
   rw[<-Int.mul_sub];congr 1;omega
  rw[e];omega
def VJ(t:Int)(l:List Int)(h:fR l l.length≠0)(k:Nat):0<=Bq t l k:=by
 induction k with
 |zero=>simp[Bq]
 |succ k ih=>have:=RZ t l k h;simp only[Bq];omega
def VK(t:Int)(l:List Int)(h:fR l l.length≠0)(k:Nat)(a:0<k):Bq t l k<k*fR l l.length:=by
 induction k with
 |zero=>omega
 |succ k ih=>
  have b:=YW t l k h;simp only[Bq];rw[show((k+1:Nat):Int)*fR l l.length=(k:Int)*fR l l.length+fR l l.length by rw[Int.natCast_add,Int.add_mul];simp];rcases cz k with h0|h0
  .subst h0;simp[Bq];omega
  .have:=ih h0;omega
def EC(t:Int)(l:List Int)(h:fR l l.length≠0)(b:k<=l.length):0<=left t l k:=by
 have c:=left_eq t l k;have d:=VJ t l h k;have e:=ON l b;have f:=oV l l.length;have g:0<=EA t*(fR l l.length-fR l k):=Int.mul_nonneg (EB t) (by omega);rcases mX (left t l k) 0 with a|a
 .have i:left t l k*fR l l.length<0:=Int.mul_neg_of_neg_of_pos a (by omega);omega
 .exact a
def MU(t:Int)(l:List Int)(k:Nat):left t l k<=EA t:=by
 induction k with
 |zero=>exact kG _
 |succ k ih=>have:=RY t l k;simp only[left];omega
def VL(t:Int)(l:List Int)(h:fR l l.length≠0):left t l l.length<l.length:=by
 have a:=left_eq t l l.length;have c:0<l.length:=by
  rcases cz l.length with h0|h0
  .rw[h0]at h;simp[fR]at h
  .exact h0
 have b:=VK t l h l.length c;have d:=oV l l.length;rw[Int.sub_self,Int.mul_zero,Jl]at a;rw[<-a]at b;exact Int.lt_of_mul_lt_mul_right b d
def YX(t:Int)(l:List Int)(i:Nat)(h:fR l l.length≠0)(b:i<l.length):quo t l i<=EA t:=by
 have a:=EC t l h (k:=i+1) (by omega);have c:=MU t l i;simp only[left]at a;omega
def fm(f:Nat->Int)(n k:Nat):(upto f n k).length=n:=by simp[upto]
def Cl(f:Nat->Int)(a:i<n):(upto f n k).getD i 0=if i<k then f i else 0:=by
 simp[upto,ah,a]
def n8(f:Nat->Int):(upto f n k).set k (f k)=upto f n (k+1):=by
 apply kL
 .simp[upto]
 .intro i b c;simp only[upto,adx,List.getElem_map,List.getElem_range];by_cases h:k=i
  .subst h;simp
  .rw[aI h];by_cases a:i<k
   .rw[aS a,if_pos (by omega)]
   .rw[aI a,if_neg (by omega)]
def iP(f:Nat->Int)(n:Nat):upto f n 0=List.replicate n 0:=by
 apply kL
 .simp[upto]
 .intro i a b;simp[upto]
def YY(r:List Int)(k:Nat):rO r k<k:=by
 induction k with
 |zero=>simp[rO]
 |succ k ih=>simp only[rO];split<;>omega
def cnt:List Int->Nat
 |[]=>0
 |y::r=>(if 0<=y then 1 else 0)+cnt r
def VM(h:0<cnt r):∃i,i<r.length/\0<=r.getD i 0:=by
 induction r with
 |nil=>simp[cnt]at h
 |cons y r ih=>
  by_cases a:0<=y
  .exact⟨0,by simp,by simpa using a⟩
  .simp only[cnt,aI a,Nat.zero_add]at h;obtain⟨i,b,c⟩:=ih h;exact⟨i+1,by simpa using b,by simpa using c⟩
def VN(a:i<r.length)(h:0<=r.getD i 0):cnt (r.set i (-1))+1=cnt r:=by
 induction r generalizing i with
 |nil=>simp at a
 |cons y r ih=>
  cases i with
  |zero=>
   have b:0<=y:=by simpa using h
   simp[cnt,b];omega
  |succ i=>
   have:=ih (i:=i) (by simpa using a) (by simpa using h);simp only[ef,cnt];omega
def VO(h:∀i,i<r.length->0<=r.getD i 0):cnt r=r.length:=by
 induction r with
 |nil=>rfl
 |cons y r ih=>
  have a:0<=y:=by simpa using h 0 (by simp)
  have:=ih (fun i b=>by simpa using h (i+1) (by simpa using b));simp only[cnt,aS a,List.length_cons];omega
def MV(h:0<=rO r k):0<=r.getD (rO r k).toNat 0:=by
 induction k with
 |zero=>simp[rO]at h
 |succ k ih=>
  simp only[rO]at h|-;split
  .rename_i a;simpa using a.1
  .rename_i a;rw[aI a]at h;exact ih h
def Hx(c:i<k)(h:0<=r.getD i 0):0<=rO r k:=by
 induction k with
 |zero=>omega
 |succ k ih=>
  simp only[rO];split
  .omega
  .rename_i a;rcases cD i k with h1|h1
   .exact ih h1
   .obtain rfl:i=k:=by omega
    by_cases b:rO r i<0
    .exact absurd ⟨h,.inl b⟩ a
    .omega
def Cm(h:j<cnt r):∃q:Nat,rO r r.length=q/\q<r.length/\0<=r.getD q 0:=by
 obtain⟨i,a,b⟩:=VM (by omega:0<cnt r);have c:=Hx a b;have d:=MV c;have e:=YY r r.length;exact⟨(rO r r.length).toNat,by omega,by omega,d⟩
def qa(x:List Int)(j:Nat):Prop:=∀i,i<x.length->0<=x.getD i 0/\x.getD i 0+j<=140737488355328
def VP{q:Nat}(h:qa x (j+1))(hq:q<x.length):qa (x.set q (x.getD q 0+1)) j:=by
 intro i a;rw[eI]at a;have b:=h i a;have c:=h q hq;simp only[ah]at b c|-;rw[jY];by_cases e:q=i
 .subst e;simp only[aS hq,if_true,kK];omega
 .rw[aI e];omega
def OO{q:Nat}(hq:rO r r.length=q):Bp (j+1) x r=Bp j (x.set q (x.getD q 0+1)) (r.set q (-1)):=by
 simp[Bp,hq]
def OP(t:Int)(l:List Int)(h:fR l l.length≠0)(b:l.length<=1048576)(c:j<l.length):qa (upto (quo t l) l.length l.length) j:=by
 intro i a;rw[fm]at a;rw[Cl _ a,if_pos a];have:=RY t l i;have:=YX t l i h a;have:=KC t;omega
def OQ(t:Int)(l:List Int)(h:fR l l.length≠0):cnt (upto (rem t l) l.length l.length)=l.length:=by
 rw[VO,fm];intro i a;rw[fm]at a;rw[Cl _ a,if_pos a];exact RZ t l i h
end Num
namespace Num
def tX{p:Nat}{v:Int}:(x.set p v).getD i 0=if p=i/\i<x.length then v else x.getD i 0:=by
 simp only[ah,jY];by_cases h:p=i
 .subst h;by_cases a:p<x.length
  .simp[a]
  .simp[a]
 .simp[h]
def VQ(c:i<k)(h:0<=rO r k):r.getD i 0<=r.getD (rO r k).toNat 0:=by
 induction k with
 |zero=>omega
 |succ k ih=>
  simp only[rO]at h|-;split
  .rename_i b;simp only[cJ];rcases cD i k with h1|h1
   .rcases mX (rO r k) 0 with h2|h2
    .rcases mX (r.getD i 0) 0 with h3|h3
     .omega
     .have:=Hx h1 h3;omega
    .have:=ih h1 h2;rcases b.2 with a|a<;>omega
   .have:i=k:=by omega
    subst this;exact kG _
  .rename_i b;rw[aI b]at h;rcases cD i k with h1|h1
   .exact ih h1 h
   .have:i=k:=by omega
    subst this;have:=MV h;rcases mX (r.getD i 0) 0 with h3|h3
    .omega
    .rcases mX (r.getD (rO r i).toNat 0) (r.getD i 0)with a|a
     .exact absurd ⟨h3,.inr a⟩ b
     .exact a
def pick(h:j<cnt r):∃q:Nat,rO r r.length=q/\q<r.length/\0<=r.getD q 0/\∀i,i<r.length->r.getD i 0<=r.getD q 0:=by
 obtain⟨q,a,b,c⟩:=Cm h;refine⟨q,a,b,c,fun i d=>?_⟩;have:=VQ d (by omega:0<=rO r r.length);rwa[a,Int.toNat_natCast]at this
def OR(x:List Int):Nat->Int
 |0=>0
 |k+1=>OR x k+x.getD k 0
end Num
namespace Num
def n9(a b:List Int):List Int:=List.zipWith add a b
def uu(t:Int)(l:List Int):(ji t l).length=l.length:=by
 have a:∀j x r,(Bp j x r).length=x.length:=by
  intro j;induction j with
  |zero=>intro x r;rfl
  |succ j ih=>intro x r;rw[Bp,ih,List.length_set]
 unfold ji;split
 .simp
 .rw[a,fm]
def Hy{a:List Int}(h:a.length=b.length):(n9 a b).length=a.length:=by simp[n9,h]
def R0{a:List Int}(h:a.length=b.length)(c:i<a.length):(n9 a b).getD i 0=add (a.getD i 0) (b.getD i 0):=by
 simp[n9,ah,List.getElem?_zipWith,c,show i<b.length by omega]
def lU(a b:List Int)(k:Nat):List Int:=b.take k++a.drop k
def R1(a b:List Int):lU a b 0=a:=by simp[lU]
def VR{a:List Int}(h:a.length=b.length):lU a b a.length=b:=by simp[lU,h]
def oW{a:List Int}(h:a.length=b.length)(k:Nat):(lU a b k).length=a.length:=by simp[lU];omega
def VT{a:List Int}(h:a.length=b.length)(c:k<=i)(d:i<a.length):(lU a b k).getD i 0=a.getD i 0:=by
 simp only[lU,ah];rw[ay (by simp;omega),bd,aN,show k+(i-min k b.length)=i by omega]
def VU{a:List Int}(h:a.length=b.length)(d:k<a.length):(lU a b k).set k (b.getD k 0)=lU a b (k+1):=by
 apply kL
 .rw[eI,oW h,oW h]
 .intro i f c;rw[oW h]at c;simp only[lU,adx,List.getElem_append,aN];by_cases e:k=i
  .subst e;have:k<min (k+1) b.length:=by omega
   simp[this,ah,show k<b.length by omega]
  .rw[aI e];by_cases g:i<k
   .rw[dif_pos (by omega),dif_pos (by omega)];simp
   .rw[dif_neg (by omega),dif_neg (by omega)];simp only[List.getElem_drop]
    congr 1
    omega
end Num
namespace Num
def it0:It:=⟨0,0,0,0⟩
def aaE(x:It):Int:=max (sat x.base) 0
def ob(l:List It)(i:Nat):Int:=aaE (l.getD i it0)
def og(l:List It)(i:Nat):Int:=(l.getD i it0).grow
def outs(l:List It):List Int:=upto (ob l) l.length l.length
def abC(l:List It):List Int:=upto (og l) l.length l.length
def Hz(room:Int)(l:List It):Nat->Int
 |0=>room
 |k+1=>sub (sub (Hz room l k) (ob l k)) (l.getD k it0).outer
def wf(a:List Bool)(l:List It)(i:Nat):Int:=if a.getD i false then 0 else(l.getD i it0).shrink
def wts(a:List Bool)(l:List It):List Int:=upto (wf a l) l.length l.length
def aaF(a:List Bool)(l:List It):Nat->Bool
 |0=>false
 |k+1=>aaF a l k||decide (0<wf a l k)
structure St where
 out:List Int
 fz:List Bool
 owed:Int
 over:Bool
def Qg(parts:List Int)(s:St):Nat->St
 |0=>⟨s.out,s.fz,s.owed,false⟩
 |k+1=>if(Qg parts s k).fz.getD k false=false/\(Qg parts s k).out.getD k 0<parts.getD k 0 then
  ⟨(Qg parts s k).out.set k 0,(Qg parts s k).fz.set k true,(Qg parts s k).owed-(Qg parts s k).out.getD k 0,true⟩
  else Qg parts s k
def VV(parts:List Int)(a:List Bool)(out:List Int):Nat->List Int
 |0=>out
 |k+1=>if a.getD k false then VV parts a out k else(VV parts a out k).set k ((VV parts a out k).getD k 0-parts.getD k 0)
def shr:Nat->List It->List Int->List Bool->Int->List Int
 |0,_,out,_,_=>out
 |n+1,l,out,b,a=>
  if a<=0 then out
  else if aaF b l l.length=false then out
  else if(Qg (ji a (wts b l)) ⟨out,b,a,false⟩ l.length).over then
   shr n l (Qg (ji a (wts b l)) ⟨out,b,a,false⟩ l.length).out (Qg (ji a (wts b l)) ⟨out,b,a,false⟩ l.length).fz (Qg (ji a (wts b l)) ⟨out,b,a,false⟩ l.length).owed
  else VV (ji a (wts b l)) b (Qg (ji a (wts b l)) ⟨out,b,a,false⟩ l.length).out l.length
def gC(room:Int)(l:List It):List Int:=
 if 0<Hz room l l.length then n9 (outs l) (ji (Hz room l l.length) (abC l))
 else if Hz room l l.length<0 then shr (l.length+1) l (outs l) (List.replicate l.length false) (-Hz room l l.length)
 else outs l
end Num
def HA:(Tryz.prog.info? 2).map (fun i=>(i.zero,i.size,i.bytes))=some (some (.int .i64 0),1,8):=by kernel_rfl
def Cn(n:Nat)(h:n<=35184372088832)(w:World):
 (Instr.makeSlice 23 n n).run tp w=.ok (w.heap.size,n,n) (w.alloc (.cells (ints (List.replicate n 0)) 2)):=by
 obtain⟨i,b,c,d,e⟩:=info_parts HA;have a:=run_make (P:=Tryz.prog) w 23 2 i (.int .i64 0) Ba b c .i64 .i64 (n:Int) (n:Int) (by omega) (by omega) (by rw[e];omega) (by omega);rw[d]at a;simp only[cJ]at a;rw[a,zp]
def xc(t:Int)(l:List Int)(A:Option Addr)(c:Nat)(w:World)(hl:l.length<=1048576)(K:gB w w A l):
 Calls tp 271 #[t,.slice A l.length c] w fun e X=>
  e=.returned (w.heap.size,l.length,l.length)/\Below w w X/\aE X w 2 (ints (ji t l)):=by
 have am:=Cn l.length (by omega);by_cases I:fR l l.length=0
 .have L:(fR l l.length==0)=true:=by simp[I]
  have g:=aU I;go_enter Tryz.func271,Tryz.ntmps271
  go_wp2
  go_loop [7,27] (fun s i=>∃k:Nat,k<=l.length/\i=k/\s=(fR l k)) (fun _ i=>l.length-(intOf i).toNat)
  case atStart=>exact⟨0,aM _,rfl,rfl⟩
  case round=>
   obtain⟨k,M,rfl,rfl⟩:=hrel;have h1:=oV l k;have h2:=MT l k;by_cases a:k<l.length
   .obtain⟨b,B,x,rfl,Y,Z,o⟩:=K.at_ a
    go_wp2
    go_round
    case rel=>exact⟨k+1,by omega,by go_num,by simp only[fR,o.out];rfl⟩
    case measure=>simp[intOf];omega
   .obtain rfl:k=l.length:=by omega
    go_wp2
    go_ret
    refine⟨rfl,?_,?_⟩
    .exact((Below.refl _ _).alloc (ae _) _).alloc (by simp) _
    .unfold ji;rw[aS g.out];exact(aE.new w _ _).alloc _
 .have L:(fR l l.length==0)=false:=by simp[I]
  have g:=aU I;have a5:=oV l l.length;have a9:1<=fR l l.length:=by omega
  go_enter Tryz.func271,Tryz.ntmps271
  go_wp2
  go_loop [7,27] (fun s i=>∃k:Nat,k<=l.length/\i=k/\s=(fR l k)) (fun _ i=>l.length-(intOf i).toNat)
  case atStart=>exact⟨0,aM _,rfl,rfl⟩
  case round=>
   obtain⟨k,M,rfl,rfl⟩:=hrel;have h1:=oV l k;have h2:=MT l k;by_cases a:k<l.length
   .obtain⟨b,B,x,rfl,Y,Z,o⟩:=K.at_ a
    go_wp2
    go_round
    case rel=>exact⟨k+1,by omega,by go_num,by simp only[fR,o.out];rfl⟩
    case measure=>simp[intOf];omega
   .obtain rfl:k=l.length:=by omega
    go_wp2
    go_loopw [10,43] (fun lf i wr=>∃k:Nat,k<=l.length/\i=k/\lf=(left t l k)/\aE wr w 2 (ints (upto (quo t l) l.length k))/\aE wr (w.heap.size+1) 2 (ints (upto (rem t l) l.length k))/\Below w w wr) (fun _ i _=>l.length-(intOf i).toNat)
    case atStart=>
     refine⟨0,aM _,rfl,rfl,?_,?_,?_⟩
     .rw[iP];exact(aE.new w _ _).alloc _
     .rw[iP];have:=aE.new (w.alloc (.cells (ints (List.replicate l.length 0)) 2)) 2 (ints (List.replicate l.length 0));simpa using this
     .exact((Below.refl _ _).alloc (ae _) _).alloc (by simp) _
    case round=>
     obtain⟨k,M,rfl,rfl,d,hR,u⟩:=hrel;by_cases a:k<l.length
     .obtain⟨b,B,x,rfl,Y,Z,o⟩:=(K.below u).at_ a;have em:=d.int (i:=k) (by rw[fm];exact a);have N:=d.free k;have eq:=hR.int (i:=k) (by rw[fm];exact a);have O:=hR.free k;obtain⟨C,D⟩:=RV (Int.le_trans (by decide) (EB t)) (KC t) (Int.le_trans (by decide) (Hw x)) (XQ x) rfl;have P:=Int.mul_nonneg (EB t) (Hw x);have E:=EC t l g.out (k:=k+1) (by omega);have F:=MU t l (k+1);have Q:=KC t;simp only[left,quo,o.out]at E F;have J:Hid (quo t l k=EA t*wt x/fR l l.length):=by unfold quo;rw[o.out];rfl
      have R:Hid (rem t l k=EA t*wt x % fR l l.length):=by unfold rem;rw[o.out];rfl
      unfold EA wt clip at C D P E F J R;unfold EA clip at Q
      go_wp2
      go_region
      go_wp2
      go_roundw
      case rel=>
       refine⟨k+1,by omega,by go_num,?_,?_,?_,?_⟩
       .simp only[left];rw[J.out]
       .have h:=(d.jK k (quo t l k)).iD (p:=(w.heap.size+1,k)) (by simp) (rem t l k);rw[n8,J.out,R.out]at h;exact h.drewN _
       .have h:=(hR.iD (p:=(w.heap.size,k)) (by simp) (quo t l k)).jK k (rem t l k);rw[n8,J.out,R.out]at h;exact h.drewN _
       .exact(((u.setCell (by simp) _).setCell (by simp) _).drew)
      case measure=>simp[intOf];omega
     .obtain rfl:k=l.length:=by omega
      have HL:=EC t l g.out (k:=l.length) (by omega);have S:=VL t l g.out;have HG:Hid (Bp (left t l l.length).toNat (upto (quo t l) l.length l.length) (upto (rem t l) l.length l.length)=ji t l):=by unfold ji;rw[aI g.out];rfl
      have HC:=OP t l g.out hl (j:=(left t l l.length).toNat) (by omega);have HD:=OQ t l g.out
      go_wp2
      go_loopw [10] (fun lf wr=>∃(j:Nat) (x r:List Int),lf=j/\x.length=l.length/\r.length=l.length/\j<cnt r/\Hid (qa x j)/\Hid (Bp j x r=ji t l)/\aE wr w 2 (ints x)/\aE wr (w.heap.size+1) 2 (ints r)/\Below w w wr) (fun lf _=>(intOf lf).toNat)
      case atStart=>
       exact⟨(left t l l.length).toNat,_,_,by rw[Int.toNat_of_nonneg HL],fm _ _ _,fm _ _ _,by omega,HC,HG,d,hR,u⟩
      case round=>
       obtain⟨j,x,r,rfl,hx,hr,hj,HN,HV,d,hR,u⟩:=hrel;have o:=aU hx;have v:=aU hr;by_cases a:0<j
       .obtain⟨q,hq,n,T⟩:=Cm hj;have HQ:=aU hq;rw[v.out]at n;obtain⟨wo,rfl⟩:=iG (wr:World)
        go_wp2
        go_loopw [14,78] (fun s i wr=>∃(k:Nat) (m:Int),k<=l.length/\i=k/\s=m/\ -1<=m/\m<k/\Hid (rO r k=m)/\aE wr w 2 (ints x)/\aE wr (w.heap.size+1) 2 (ints r)/\Below w w wr) (fun _ i _=>l.length-(intOf i).toNat)
        case atStart=>exact⟨0,-1,aM _,rfl,rfl,by omega,by omega,rfl,d,hR,u⟩
        case round=>
         obtain⟨k,m,M,rfl,rfl,C,D,S,d,hR,u⟩:=hrel;by_cases U:k<l.length
         .obtain⟨y,hy,G⟩:=hR.nY (i:=k) (by rw[v.out];exact U);have g:Hid (rO r (k+1)=if 0<=y/\(m<0\/r.getD m.toNat 0<y)then(k:Int)else m):=by
           show rO r (k+1)=_;simp only[rO,G.out,S.out]
          rcases mX y 0 with h1|h1
          .have hd:decide (0<=y)=false:=by simp;omega
           have f:Hid (rO r (k+1)=m):=by rw[g.out,if_neg (by omega)];rfl
           go_wp2
           go_quiet (fail)
           go_wp2
           go_roundw
           case rel=>exact⟨k+1,m,by omega,by go_num,rfl,by omega,by omega,f,d,hR,qH u _⟩
           case measure=>simp[intOf];omega
          .rcases mX m 0 with h2|h2
           .have hd:decide (m<0)=true:=by simp;omega
            have f:Hid (rO r (k+1)=(k:Int)):=by rw[g.out,if_pos (by omega)];rfl
            go_wp2
            go_quiet (fail)
            go_wp2
            go_roundw
            case rel=>exact⟨k+1,(k:Int),by omega,by go_num,rfl,by omega,by omega,f,d,hR,qH u _⟩
            case measure=>simp[intOf];omega
           .obtain⟨p,rfl⟩:=Int.eq_ofNat_of_zero_le h2;obtain⟨z,hz,HZ⟩:=hR.nY (i:=p) (by rw[v.out];omega);rw[cJ,HZ.out]at g;have hd:decide ((p:Int)<0)=false:=by simp
            by_cases h3:z<y
            .have f:Hid (rO r (k+1)=(k:Int)):=by rw[g.out,if_pos (by omega)];rfl
             go_wp2
             go_quiet (fail)
             go_wp2
             go_roundw
             case rel=>exact⟨k+1,(k:Int),by omega,by go_num,rfl,by omega,by omega,f,d,hR,qH u _⟩
             case measure=>simp[intOf];omega
            .have f:Hid (rO r (k+1)=(p:Int)):=by rw[g.out,if_neg (by omega)];rfl
             have ge:decide (z<y)=false:=by simp;omega
             go_wp2
             go_quiet (fail)
             go_wp2
             go_roundw
             case rel=>exact⟨k+1,(p:Int),by omega,by go_num,rfl,by omega,by omega,f,d,hR,qH u _⟩
             case measure=>simp[intOf];omega
         .obtain rfl:k=l.length:=by omega
          obtain rfl:m=(q:Int):=by rw[<-S.out,<-HQ.out,v.out]
          obtain⟨i,rfl⟩:∃i,j=i+1:=⟨j-1,by omega⟩;obtain⟨y,hy,G⟩:=d.nY (i:=q) (by rw[o.out];exact n);obtain⟨z,hz,HZ⟩:=hR.nY (i:=q) (by rw[v.out];exact n);have N:=d.free q;have O:=hR.free q;have H:=HN.out q (by rw[o.out];exact n);rw[G.out]at H;obtain⟨g7,g8⟩:=H;have V:Hid (qa (x.set q (y+1)) i):=by
           have:=VP HN.out (q:=q) (by rw[o.out];exact n);rwa[G.out]at this
          have W:Hid (Bp i (x.set q (y+1)) (r.set q (-1))=ji t l):=by
           have:=HV.out;rwa[OO (HQ.out),G.out]at this
          have ii:=VN (i:=q) (r:=r) (by rw[v.out];exact n) T
          go_wp2
          go_roundw
          case rel=>
           refine⟨i,x.set q (y+1),r.set q (-1),by go_num,by rw[eI,o.out],by rw[eI,v.out],by omega,V,W,?_,?_,?_⟩
           .exact(d.jK q (y+1)).iD (by simp) _
           .exact(hR.iD (by simp) _).jK q (-1)
           .exact(u.setCell (by simp) _).setCell (by simp) _
          case measure=>simp[intOf]
       .obtain rfl:j=0:=by omega
        go_wp2
        go_ret
        exact⟨rfl,u,by rw[<-HV.out];exact d⟩
namespace Mem
end Mem
open ep
def OS(x:Nd)(k:x.lone)(w:World):Calls tp 91 #[.agg x.arr] w fun e l=>e=true/\Below w w l:=by
 obtain⟨kind,name,text,b,fst,lst,prv,c⟩:=x;have h:Below w w (w.alloc (.cells #[kind,name,text,zn,b,fst,lst,prv,c] 121)):=(Below.refl _ _).alloc (ae _) _;have m:∀w:World,(Instr.makeMap 277 none).run tp w=.ok (.map (some w.heap.size)) (w.alloc (.map #[] 0)):=fun w=>rfl;rcases k with⟨a,d,f⟩|⟨a,d,f,i,j⟩
 .simp only at a d f;subst a;simp only[Nd.arr];go_enter Tryz.func91,Tryz.ntmps91
  go_wp2_with fail
  have g:=h.alloc (B:=w.heap.size) (by simp) (.map #[] 0);go_loopw [56] (fun s wr=>s=zQ/\Below w w wr) (fun _ _=>0)
  case atStart=>exact⟨rfl,g⟩
  case round=>
   obtain⟨rfl,n⟩:=hrel;go_wp2_with fail
   go_ret
   exact⟨rfl,n⟩
 .simp only at a d f i j;subst a i j;simp only[Nd.arr];go_enter Tryz.func91,Tryz.ntmps91
  go_wp2_with fail
  go_ret
  exact⟨rfl,h⟩
section
namespace Mem
def jq(w:World)(v a:Value):Prop:=a.ownBlock=v.ownBlock\/∃g,a.ownBlock=some g/\w.heap.size<=g
section
variable{P:Program}(w:World)
def vU(h:Nat)(t y e:TypeId)(i:TypeInfo)(z:Value)(size bytes:Nat)(I:P.underlying t=some (.slice e))(J:P.info? e=some i)(L:i.zero=some z)
 (l:i.size=size)(A:i.bytes=bytes)(M:z.cells.size=size)(N:0<size)
 (v:Value)(n:Nat)(B:List Value)(k:w.ownsRow h e size v n B)
 (a:Addr)(m c:Nat)(b:List Value)(C:b.length=m*size)(d:∀j u,b[j]? =some u->w.cell? (a.add j)=some u)(q:∀u∈b,u.oneCell'=true)
 (D:n+m<=maxLen)(f:(n+m)*bytes<=140737488355328)(r:h<=w.heap.size):
 ∃E F,(Builtin.append_ #[t,t] y #[v,.slice (some a) m c]).run P w=.ok E F/\F.ownsRow h e size E (n+m) (B++b)/\w.grownBy F v.ownBlock/\jq w v E:=by
 obtain⟨E,F,s,T,U,V⟩:=run_append_own (P:=P) w h t y e i z size bytes I J L l A M N v n B k a m c b C d q D f r;refine⟨E,F,s,T,U,?_⟩;subst l;subst A;have K:n+m<=9223372036854775807:=by simp only[maxLen]at D;omega
 rcases k.2 with⟨rfl,rfl⟩|⟨g,cap,G,rfl,W,O,X,Y,Q,R⟩
 .by_cases Z:m=0
  .have:=V.2 ⟨rfl,Z⟩;subst this;exact .inl rfl
  .have o:=run_append_nil (P:=P) w t y e i z I J L a m c b C d (by omega) (by omega) (by have hb:=f;simp only[bc]at hb;omega);rw[o]at s;injection s with q S;subst q;exact .inr ⟨_,rfl,Nat.le_refl _⟩
 .by_cases p:n+m<=cap
  .have H:n*i.size+b.length<=G.size:=by rw[C,Q,<-Nat.add_mul];exact aC _ p
   have o:=run_append_room (P:=P) w t y e i I J g n cap G O a m c b C d q p H;rw[o]at s;injection s with q S;subst q;exact .inl rfl
  .have x:∀j u,B[j]? =some u->w.cell? ((g:Addr).add j)=some u:=k.cells (g:=g) rfl;have o:=run_append_grow (P:=P) w t y e i z I J L g n cap B k.1 x a m c b C d (by omega) (by omega) (X7 (by omega) f);rw[o]at s;injection s with q S;subst q;exact .inr ⟨_,rfl,Nat.le_refl _⟩
def du{K:Act->World->Prop}(s x:Operand)(t:TypeId)
 (F:o.op=.call {callee:=.builtin .append,args:=#[s,x],argTypes:=#[t,t]})
 (d:Nat)(e:TypeId)(i:TypeInfo)(z:Value)(size bytes:Nat)(G:P.underlying t=some (.slice e))(H:P.info? e=some i)(I:i.zero=some z)
 (g:i.size=size)(y:i.bytes=bytes)(A:z.cells.size=size)(B:0<size)
 (v:Value)(n:Nat)(C:List Value)(J:a.eval s=v)(p:w.ownsRow d e size v n C)
 (D:Addr)(m c:Nat)(b:List Value)(L:a.eval x=.slice (some D) m c)(M:b.length=m*size)(k:∀j u,b[j]? =some u->w.cell? (D.add j)=some u)(N:∀u∈b,u.oneCell'=true)
 (E:n+m<=maxLen)(f:(n+m)*bytes<=140737488355328)(l:d<=w.heap.size)
 (h:∀q r,r.ownsRow d e size q (n+m) (C++b)->w.grownBy r v.ownBlock->jq w v q->K (a.put o.dst q) r):o.wp P a w K Q:=by
 obtain⟨q,r,O,R,S,T⟩:=vU (P:=P) w d t o.type e i z size bytes G H I g y A B v n C p D m c b M k N E f l;unfold Oper.wp execOp;simp only[F,resolve,invoke,builtin,aB,cH,aq,List.map_toArray,bV,wP,J,L,O];exact h q r R S T
def bD{q:Array Oper}{g:List Oper}(B:o.guard=none)(s x:Operand)(t:TypeId)
 (I:o.op=.call {callee:=.builtin .append,args:=#[s,x],argTypes:=#[t,t]})
 (d:Nat)(e:TypeId)(i:TypeInfo)(z:Value)(size bytes:Nat)(J:P.underlying t=some (.slice e))(K:P.info? e=some i)(L:i.zero=some z)
 (k:i.size=size)(C:i.bytes=bytes)(D:z.cells.size=size)(E:0<size)
 (v:Value)(n:Nat)(F:List Value)(M:a.eval s=v)(r:w.ownsRow d e size v n F)
 (G:Addr)(m c:Nat)(b:List Value)(N:a.eval x=.slice (some G) m c)(O:b.length=m*size)(l:∀j u,b[j]? =some u->w.cell? (G.add j)=some u)(R:∀u∈b,u.oneCell'=true)
 (H:n+m<=maxLen)(f:(n+m)*bytes<=140737488355328)(p:d<=w.heap.size)
 (h:∀y A,A.ownsRow d e size y (n+m) (F++b)->w.grownBy A v.ownBlock->jq w v y->wpList P q Q g (a.put o.dst y) A):wpList P q Q (o::g) a w:=
 wpList_plain B fun _ S=>du w s x t I d e i z size bytes J K L k C D E v n F M r G m c b N O l R H f p fun y A T U V=>S _ _ (h y A T U V)
end
def gO{w c:World}{a sz:Nat}{v2:Value}{d:List Value}(h:w.ownsRow a e sz v2 n d)(f:w.grownBy c v.ownBlock)(b:v2.ownBlock=none\/v2.ownBlock≠v.ownBlock):c.ownsRow a e sz v2 n d:=
 h.kept f b
def gA{w:World}{a sz:Nat}{d v2:Value}{f:List Value}(h:w.ownsRow a e sz v2 n f)(b:jq w v d)(c:v2.ownBlock=none\/v2.ownBlock≠v.ownBlock):v2.ownBlock=none\/v2.ownBlock≠d.ownBlock:=by
 rcases b with b|⟨g,b,i⟩
 .rw[b];exact c
 .right;rw[b];intro hq;have:=(h.lt g hq).2;omega
def gg{w c:World}{d:Array Value}(h:w.heap[g]? =some (.cells d t (0,0)))(a:g<w.heap.size)(e:w.grownBy c v.ownBlock)(b:some g≠v.ownBlock):c.heap[g]? =some (.cells d t (0,0)):=
 (e.block g a b).trans h
end Mem
end
section
namespace Ord
variable{P:Program}{ops:Array Oper}{Q:Exit->Act->World->Prop}{md:Region.Mode}{S:World->Prop}
def zS(P:Program)(md:Region.Mode)(ops:Array Oper)(Q:Exit->Act->World->Prop)(S:World->Prop)(X:Nat->Bool):Nat->Array Bool->Act->World->Prop
 |0,listed,a,w=>Region.ready md ops listed=[]/\Q .normal a w
 |b+1,listed,a,w=>(Region.ready md ops listed=[]->Q .normal a w)/\
  ∀i∈Region.ready md ops listed,wpOp P ops Q i (fun d c=>(X i=false->S c)/\zS P md ops Q S X b (listed.setIfInBounds i true) d c) a w
def Ik{X:Nat->Bool}:∀(b:Nat) (listed:Array Bool) (a:Act) (w:World),zS P md ops Q S X b listed a w->wpAny P md ops Q b listed a w
 |0,_,_,_,h=>h
 |b+1,_,_,_,h=>⟨h.1,fun i c=>wpOp_mono (fun d e f=>Ik b _ d e f.2) (h.2 i c)⟩
def We{X:Nat->Bool}{r:Oper}(R:X i=false)(I:ops[i]? =some r)(m:∀(j:Nat) (o:Oper) x b,ops[j]? =some o->o.op≠.select x b)
 (T:∀c a w,Q (.panic c) (a.put r.dst v) w->Q (.panic c) a w):
 ∀(d:Nat) (listed:Array Bool) (a:Act) (w:World),
  (∀n,X n=true->Region.waitsFor md ops n i=true)->
  (∀j s,ops[j]? =some s->j≠i->listed.getD j true=false->(∀e∈s.after,Region.binds md e=true->e.on≠i)->r.apart ops s=true)->
  i∈Region.ready md ops listed->Y P ops S r v a->S w->
  zS P md ops Q S X d (listed.setIfInBounds i true) (a.put r.dst v) w->zS P md ops Q S X (d+1) listed a w:=by
 intro d;induction d with
 |zero=>
  intro listed a w _ _ p F y H;refine⟨fun h=>(by rw[h]at p;cases p),fun j z=>?_⟩;by_cases f:j=i
  .subst f;exact F.wpOp I y ⟨fun _=>y,H⟩
  .have:=yj z f;rw[H.1]at this;cases this
 |succ d ih=>
  intro listed a w N g p F y H;refine⟨fun h=>(by rw[h]at p;cases p),fun j z=>?_⟩;by_cases f:j=i
  .subst f;exact F.wpOp I y ⟨fun _=>y,H⟩
  .have t:=H.2 j (ready_mono z f);obtain⟨q,s,u,A⟩:=mem_ready.1 z;have B:∀e∈s.after,Region.binds md e=true->e.on≠i:=fun e U V J=>by
    have t:=A e U V;have O:=(mem_ready.1 p).1;rw[J]at t;rcases cD i listed.size with K|K
    .simp[K]at O t;rw[O]at t;cases t
    .simp[cV K]at t
   have C:X j=false:=by
    cases W:X j with
    |false=>rfl
    |true=>exact absurd z (vS (.inl (N j W)) (mem_ready.1 p).1)
   have Z:=Ch u (g j s u f q B) (fun x b=>m i r x b I) (fun x b=>m j s x b u) T F t;have l:∀k ok,ops[k]? =some ok->k≠i->(listed.setIfInBounds j true).getD k true=false->
    (∀e∈ok.after,Region.binds md e=true->e.on≠i)->r.apart ops ok=true:=fun k ok hk L D M=>by
    refine g k ok hk L ?_ M;by_cases E:j=k
    .subst E;exact q
    .rw[getD_set_ne true E]at D;exact D
   refine mW (fun a' w' G=>⟨fun _=>G.2.1 C,ih (listed.setIfInBounds j true) a' w' N l (ready_mono p (Ne.symm f)) G.1 (G.2.1 C) ?_⟩) Z;rw[Xu _ _ f];exact G.2.2
def CC(P:Program)(ops:Array Oper)(Q:Exit->Act->World->Prop)(S:World->Prop)(X:Nat->Bool):KA->Act->World->Prop
 |.nil,a,w=>Q .normal a w
 |.one _ (some d) true r,a,w=>∃v,Y P ops S d v a/\CC P ops Q S X r (a.put d.dst v) w
 |.one i (some _) false r,a,w=>wpOp P ops Q i (fun c b=>(X i=false->S b)/\CC P ops Q S X r c b) a w
 |.two i (some _) r j (some _) s,a,w=>wpOp P ops Q i (fun c b=>(X i=false->S b)/\CC P ops Q S X r c b) a w/\wpOp P ops Q j (fun c b=>(X j=false->S b)/\CC P ops Q S X s c b) a w
 |_,_,_=>False
def xe(X:Nat->Bool):Tree->Bool
 |.nil=>true
 |.one i b r=> !b&&X i&&xe X r
 |.two i r j s=>X i&&X j&&xe X r&&xe X s
def Bw(md:Region.Mode)(ops:Array Oper)(X:Nat->Bool):Tree->Array Bool->Bool
 |.nil,listed=>Region.ready md ops listed==[]
 |.one i true r,listed=> !X i&&(List.range ops.size).all (fun n=> !X n||Region.waitsFor md ops n i)&&Region.free md ops listed i&&(Region.ready md ops listed).contains i&&Bw md ops X r (listed.setIfInBounds i true)
 |.one i false r,listed=>(Region.ready md ops listed==[i])&&(!X i||xe X r)&&Bw md ops X r (listed.setIfInBounds i true)
 |.two i r j s,listed=>(Region.ready md ops listed==[i,j])&&(!X i||xe X r)&&(!X j||xe X s)&&Bw md ops X r (listed.setIfInBounds i true)&&Bw md ops X s (listed.setIfInBounds j true)
def O8{X:Nat->Bool}(U:∀n,l.length<=n->X n=false)(V:Region.noSelect l.toArray=true)(W:∀(c:_) (a:Act) (d:Option Tmp) (v:Value) (w:World),Q (.panic c) (a.put d v) w->Q (.panic c) a w):∀(t:Tree) (e:Nat) (listed:Array Bool) (a:Act) (w:World),
 t.depth<=e->Bw md l.toArray X t listed=true->(S w\/xe X t=true)->CC P l.toArray Q S X (fL l t) a w->zS P md l.toArray Q S X e listed a w:=by
 intro t;induction t with
 |nil=>
  intro e listed a w _ f _ h;have x:Region.ready md l.toArray listed=[]:=by simpa[Bw]using f
  cases e with
  |zero=>exact⟨x,h⟩
  |succ e=>exact⟨fun _=>h,by rw[x];simp⟩
 |one i b r ih=>
  intro e listed a w u f m h;cases e with
  |zero=>simp[Tree.depth]at u
  |succ e=>
   have y:r.depth<=e:=by simp[Tree.depth]at u;omega
   cases o:l[i]? with
   |none=>cases b<;>simp[fL,o,CC]at h
   |some J=>
    cases b with
    |true=>
     replace m:S w:=by
      rcases m with m|m
      .exact m
      .simp[xe]at m
     simp only[fL,o,CC]at h;obtain⟨v,Y,h⟩:=h;simp only[Bw,ax,kb]at f;have z:l.toArray[i]? =some J:=by simpa using o
     have B:∀n,X n=true->Region.waitsFor md l.toArray n i=true:=fun n C=>by
      have K:=f.1.1.1.2;rw[aQ]at K;have D:n<l.toArray.size:=by
       rcases cD n l.length with h|h
       .simpa using h
       .rw[U n h]at C;cases C
      have:=K n (List.mem_range.2 D);rw[C]at this;simpa using this
     exact We f.1.1.1.1 z (Region.noSelect_spec V) (fun c a w hq=>W c a _ _ w hq) e listed a w B (Region.free_spec z f.1.1.2) (by simpa using f.1.2) Y m (ih e _ _ _ y f.2 (.inl m) h)
    |false=>
     simp only[fL,o,CC]at h;simp only[Bw,ax,fZ]at f;refine⟨fun A=>(by rw[f.1.1]at A;cases A),fun j q=>?_⟩;rw[f.1.1]at q;have:j=i:=by simpa using q
     subst this;refine mW (fun L M g=>⟨g.1,ih e _ _ _ y f.2 ?_ g.2⟩) h;cases p:X j with
     |false=>exact .inl (g.1 p)
     |true=>
      right;have N:=f.1.2;rw[p]at N;simpa using N
 |two i r j s E F=>
  intro e listed a w u f m h;cases e with
  |zero=>simp[Tree.depth]at u
  |succ e=>
   have G:r.depth<=e:=by simp[Tree.depth]at u;omega
   have H:s.depth<=e:=by simp[Tree.depth]at u;omega
   cases o:l[i]? with
   |none=>cases q:l[j]? <;>simp[fL,o,q,CC]at h
   |some J=>
    cases q:l[j]? with
    |none=>simp[fL,o,q,CC]at h
    |some oj=>
     simp only[fL,o,q,CC]at h;simp only[Bw,ax,fZ]at f;obtain⟨⟨⟨⟨x,O⟩,R⟩,Z⟩,o2⟩:=f;refine⟨fun A=>(by rw[x]at A;cases A),fun k T=>?_⟩;rw[x]at T;have I:k=i\/k=j:=by simpa using T
     rcases I with rfl|rfl
     .refine mW (fun L M g=>⟨g.1,E e _ _ _ G Z ?_ g.2⟩) h.1;cases p:X k with
      |false=>exact .inl (g.1 p)
      |true=>right;rw[p]at O;simpa using O
     .refine mW (fun L M g=>⟨g.1,F e _ _ _ H o2 ?_ g.2⟩) h.2;cases p:X k with
      |false=>exact .inl (g.1 p)
      |true=>right;rw[p]at R;simpa using R
def Sr{id:Nat}(X:Nat->Bool)(t:Tree)(e:P.follows .mixedOrders=true)(f:Region.noSelect l.toArray=true)(g:∀n,l.length<=n->X n=false)
 (i:Bw .any l.toArray X t (Array.replicate l.toArray.size false)=true)(j:t.depth<=l.toArray.size)(k:∀(c:_) (a:Act) (d:Option Tmp) (v:Value) (w:World),Q (.panic c) (a.put d v) w->Q (.panic c) a w)(b:S w.drew)
 (h:S w.drew->CC P l.toArray Q S X (fL l t) a w.drew):(Code.region id l.toArray true).wp P Q a w:=
 wp_region_any e (Ik _ _ _ _ (O8 g f k t _ _ _ _ j i (.inl b) (h b)))
variable{X:Nat->Bool}
def Ss{r:KA}{b:Oper}(c:YieldsIf P ops S b v a)(h:CC P ops Q S X r (a.put b.dst v) w):CC P ops Q S X (.one i (some b) true r) a w:=⟨v,.inl c,h⟩
def vY{r:KA}(c:ops[i]? =some o)(d:Region.wanted o (yielded ops a.tmps)=true)
 (h:∀b:Act->World->Prop,Shut (∀a w,(X i=false->S w)->CC P ops Q S X r a w->b a w)->Oper.wp P o a w b Q):
 CC P ops Q S X (.one i (some o) false r) a w:=
 wpOp_step c (fun b e=>by rw[aS d];exact h b (fun a w f g=>e a w ⟨f,g⟩))
def aaL{r s:KA}{p:Oper}(k:ops[i]? =some o)(l:Region.wanted o (yielded ops a.tmps)=true)(c:ops[j]? =some p)(d:Region.wanted p (yielded ops a.tmps)=true)
 (h:∀b:Act->World->Prop,Shut (∀a w,(X i=false->S w)->CC P ops Q S X r a w->b a w)->Oper.wp P o a w b Q)
 (m:∀b:Act->World->Prop,Shut (∀a w,(X j=false->S w)->CC P ops Q S X s a w->b a w)->Oper.wp P p a w b Q):
 CC P ops Q S X (.two i (some o) r j (some p) s) a w:=
 ⟨wpOp_step k (fun b e=>by rw[aS l];exact h b (fun a w f g=>e a w ⟨f,g⟩)),wpOp_step c (fun b e=>by rw[aS d];exact m b (fun a w f g=>e a w ⟨f,g⟩))⟩
def Su(h:Q .normal a w):CC P ops Q S X .nil a w:=h
