/- part of topCells.proved -/
import Derived.Test.YtkkiefcapbddkaaGreatDoorQb
set_option linter.all false
set_option maxRecDepth 1000000
set_option maxHeartbeats 0
noncomputable section
namespace Go.Abs
open Go.RowKit
variable{d:Bool}{E:En}{e l:Ev}{x:Exit}{s:GT}{f:GT->Rs (Exit×GT)}{h:HL}{a i k n t:Nat}{op:Op}{o:Oper}{r:V×HL×Nat}
section
variable[de]
structure Gc(n0:Nat)(t u:St):Prop where
 n:n0<=u.n
 h:∀k o,u.h k=some o->k<u.n/\t.h k=some o/\o.lt u.n
 e:∀i x,u.e i=some x->t.e i=some x/\V.lt u.n x=true
def Gc.step{m L:Nat}{t u j:St}{C g:Gh}{a M:Act}{w E:World}(A:Gc L t u)(H:Sat m j C M E)(V:j.n<=L)(D:Sat m t g a w)(N:Ext C j.h E g t.h w):
 Sat m u (g.cut u.n) a w/\Ext C j.h E (g.cut u.n) u.h w:=by
 have I:∀k,C.U k=true->k<u.n:=fun k B=>by
  rcases cD k j.n with h|h
  .have:=A.n;omega
  .rw[H.new k h]at B;cases B
 have O:=N.cut (h':=u.h) I (fun k m B J=>(A.h k _ J).2.1);refine⟨⟨D.rel.cut A.h,fun k B=>?_,fun i x R=>?_,D.size,D.NR⟩,O⟩
 .have:¬k<u.n:=by omega
  simp[Gh.cut,this]
 .obtain⟨S,T⟩:=A.e i x R;exact(D.env i x S).cut (fun k m B J=>(A.h k _ J).2.1) T
section
variable{P:Program}{m:Nat}{Q:Exit->St->Prop}
def WG(P:Program)(m:Nat)(c:Code)(a:Nat)(Q:Exit->St->Prop):Nat->St->Prop
 |0,_=>False
 |n+1,s=>W P m c (nx (fun t=>WG P m c a Q n t\/∃u,Gc a t u/\WG P m c a Q n u) Q) s
def N7{c:Code}(n:Nat){s:St}(h:WG P m c s.n Q n s):W P m (.loop c) Q s:=by
 intro o k p f;refine wp_loop_rounds n ?_;have q:∀(n:Nat) (b:St) (g:Gh) (a:Act) (w:World),WG P m c s.n Q n b->Sat m b g a w->Ext o s.h p g b.h w->(∀i,writes c i=false->a.tmps.getD i undef=k.tmps.getD i undef)->
  Code.rounds P c (fun x e j=>∃b y,Q x b/\Sat m b y e j/\Ext o s.h p y b.h j/\∀i,writes (.loop c) i=false->e.tmps.getD i undef=k.tmps.getD i undef) n a w:=by
  intro n;induction n with
  |zero=>intro b g a w h _ _ _;exact h.elim
  |succ n ih=>
   intro b g a w h C r D;refine ma (h g a w C) fun x e j ⟨z,A,l,t,v,E⟩=>?_;have d:∀i,writes c i=false->e.tmps.getD i undef=k.tmps.getD i undef:=fun i B=>(E i B).trans (D i B);cases x with
   |normal=>
    rcases l with l|⟨u,F,G⟩
    .exact ih z A e j l t (r.trans v) d
    .obtain⟨H,I⟩:=F.step f (Nat.le_refl _) t (r.trans v);exact ih u _ e j G H I d
   |_=>exact⟨z,A,l,t,r.trans v,d⟩
 exact q n s o k p h f (Ext.refl _ _ _) fun _ _=>rfl
def WH(P:Program)(m:Nat)(c:Code)(b:Nat)(Q:Exit->St->Prop):Nat->Code->St->Prop
 |0,_,_=>False
 |n+1,d,s=>W P m d (jmp (fun l t=>∃a,findLabel c l=some a/\(WH P m c b Q n a t\/∃u,Gc b t u/\WH P m c b Q n a u)) Q) s
def Rc{c:Code}(n:Nat){s:St}(h:WH P m c s.n Q n c s):W P m (.scope c) Q s:=by
 intro q p r k;refine Bl n ?_;have t:∀(n:Nat) (d:Code) (e:St) (g:Gh) (a:Act) (w:World),(∀i,writes c i=false->writes d i=false)->WH P m c s.n Q n d e->Sat m e g a w->Ext q s.h r g e.h w->(∀i,writes c i=false->a.tmps.getD i undef=p.tmps.getD i undef)->
  Code.hops P c (fun x j o=>∃e C,Q x e/\Sat m e C j o/\Ext q s.h r C e.h o/\∀i,writes (.scope c) i=false->j.tmps.getD i undef=p.tmps.getD i undef) n d a w:=by
  intro n;induction n with
  |zero=>intro d e g a w _ h _ _ _;exact h.elim
  |succ n ih=>
   intro d e g a w H h I v J;refine ma (h g a w I) fun x j o ⟨D,E,F,y,z,K⟩=>?_;have f:∀i,writes c i=false->j.tmps.getD i undef=p.tmps.getD i undef:=fun i G=>(K i (H i G)).trans (J i G);cases x with
   |goto l=>
    obtain⟨b,A,B⟩:=F;refine⟨b,A,?_⟩;rcases B with B|⟨u,L,M⟩
    .exact ih b D E j o (jo A) B y (v.trans z) f
    .obtain⟨N,O⟩:=L.step k (Nat.le_refl _) y (v.trans z);exact ih b u _ j o (jo A) M N O f
   |_=>exact⟨D,E,F,y,v.trans z,f⟩
 exact t n c s q p r (fun _ h=>h) h k (Ext.refl _ _ _) fun _ _=>rfl
end
def tH(m:Nat):Code->Bool
 |.region _ c d=>c.toList.all (iz m)&&(!d||(xS c&&Q7 c))
 |.seq a b=>tH m a&&tH m b
 |.cond _ a b=>tH m a&&tH m b
 |.block _ a=>tH m a
 |.loop a=>tH m a
 |.scope a=>tH m a
 |_=>true
def qC(b:List Nat)(a:List Oper):List Nat:=a.filterMap fun o=>match o.dst with
 |some d=>bif b.elem d then some d else none
 |none=>none
def jJ(l:Ev)(a:List Nat)(e:Ev):Ev:=List.rec e (fun k _ ih=>Option.rec ih (fun x=>ud ih k x) (lk l k none)) a
def U4(l:Ev)(k:Nat)(x:V)(i:Nat):lk (ud l k x) i none=if i=k then some x else lk l i none:=by
 induction l with
 |e=>show lk (.c k x .e) i none=_;rw[l5]
 |c j v r ih=>
  have b:ud (.c j v r) k x=Bool.rec (.c j v (ud r k x)) (.c k x r) (Nat.beq j k):=rfl;rw[b,lj];by_cases e:j=k
  .rw[bf e];simp only[l5,e];by_cases a:i=k
   .simp[a]
   .simp[a]
  .rw[aA e];simp only[l5,ih];by_cases a:i=j
   .subst a;simp[e]
   .simp[a]
def vL(l:Ev)(e:Ev)(i:Nat):∀a:List Nat,lk (jJ l a e) i none=if i∈a/\(lk l i none).isSome then lk l i none else lk e i none
 |[]=>by simp[jJ]
 |k::a=>by
  have d:jJ l (k::a) e=Option.rec (jJ l a e) (fun x=>ud (jJ l a e) k x) (lk l k none):=rfl;have ih:=vL l e i a;rw[d];cases c:lk l k none with
  |none=>
   simp only;rw[ih];by_cases b:i=k
   .subst b;simp[c]
   .simp[b]
  |some x=>
   simp only;rw[U4,ih];by_cases b:i=k
   .subst b;simp[c]
   .simp[b]
structure Qd(kp:List Nat)(s:GT):Prop where
 l:s.l=.e
 e:∀i x,lk s.e i none=some x->kp.elem i=true
def Rd(E:En)(c:CL)(f:Nat->Nat->Bool)(g:List Nat)(id:Nat)(a:Array Oper)(d:Bool)(s:GT):Rs (Exit×GT):=
 rb (pN (Nat.add 10000 id) (Bool.rec (xz E c (f id) a.toList a.toList 0 s) (qB E c (f id) a a.toList 0 [] s) d)) fun b=>.ok (.normal,⟨.e,jJ b.l (qC g a.toList) s.e,b.h,b.n⟩)
def D5{P:Program}{m:Nat}{a:Array Oper}{Q c:St->Prop}(hq:∀t,Q t->c t):∀{l:List Oper} {s:St},RO P m a l Q s->RO P m a l c s
 |[],s,h=>hq _ h
 |o::l,s,h=>by
  unfold RO at h|-;cases d:DH s a o with
  |none=>rw[d]at h;exact h.elim
  |some b=>rw[d]at h;cases b with
   |true=>exact mz.mono h fun t=>D5 hq
   |false=>exact D5 hq h
def GM{P:Program}{m:Nat}{b:Array Oper}{Q c:St->Prop}(hq:∀t,Q t->c t):∀{l:List Oper} {i:Nat} {a:List It} {s:St},RDr P m b Q l i a s->RDr P m b c l i a s
 |[],i,a,s,h=>⟨h.1,hq _ h.2⟩
 |o::l,i,a,s,⟨t,d,e,f,g⟩=>⟨t,d,e,f,GM hq g⟩
def D6{d:Option Tmp}{x:V}(a:d≠some i):lk (eU s d x h n).l i none=lk s.l i none:=by
 cases d with
 |none=>rfl
 |some k=>
  show lk (.c k x s.l) i none=_;rw[l5,aI];intro e;subst e;exact a rfl
def vM{d:Option Tmp}{x:V}:(eU s d x h n).e=s.e:=by cases d<;>rfl
def XH{c:CL}{a:GT}(h:Q3 E c d s o.dst o.op=.ok a):∃x e n,a=eU s o.dst x e n:=by
 unfold Q3 at h;cases hq:mC o.op with
 |none=>rw[hq]at h;obtain⟨out,f,b⟩:=kM h;cases b;exact⟨_,_,_,rfl⟩
 |some q=>
  rw[hq]at h;obtain⟨v,f,h⟩:=iH h;obtain⟨_,b,h⟩:=iH h;obtain⟨g,i,h⟩:=iH h;obtain⟨j,k,h⟩:=kM h;cases h;exact⟨_,_,_,rfl⟩
def XI{c:CL}{b:GT}{t:Tr}(h:Qc E c d s o.dst o.op=.ok (t,b)):∃x e n,b=eU s o.dst x e n:=by
 unfold Qc at h;cases hq:mC o.op with
 |none=>rw[hq]at h;obtain⟨out,f,a⟩:=kM h;obtain⟨_,a⟩:=kQ a;cases a;exact⟨_,_,_,rfl⟩
 |some q=>
  rw[hq]at h;obtain⟨v,f,h⟩:=iH h;obtain⟨_,a,h⟩:=iH h;obtain⟨g,i,h⟩:=iH h;obtain⟨j,k,h⟩:=kM h;cases h;exact⟨_,_,_,rfl⟩
def JV{E:En}{p:CL}{q:Nat->Bool}{c:List Oper}{i:Nat}:∀{l:List Oper} {j:Nat} {s a:GT},sS l i=false->xz E p q c l j s=.ok a->lk a.l i none=lk s.l i none/\a.e=s.e
 |[],j,s,a,g,h=>by cases h;exact⟨rfl,rfl⟩
 |o::l,j,s,a,g,h=>by
  obtain⟨d1,d2⟩:=nP g;rw[rH]at h;obtain⟨b,u,k⟩:=iH h;cases b with
  |true=>
   obtain⟨v,r,t⟩:=kM k;obtain⟨x,w,n,rfl⟩:=XH (l4 r);obtain⟨d,f⟩:=JV d2 t;exact⟨d.trans (D6 d1),f.trans vM⟩
  |false=>
   obtain⟨d,f⟩:=JV d2 k;exact⟨d.trans (D6 d1),f.trans vM⟩
def JW{E:En}{f:CL}{g:Nat->Bool}{c:List Oper}:∀{l:List Oper} {j:Nat} {s a:GT},xz E f g c l j s=.ok a->a.e=s.e
 |[],j,s,a,h=>by cases h;rfl
 |o::l,j,s,a,h=>by
  rw[rH]at h;obtain⟨b,p,d⟩:=iH h;cases b with
  |true=>
   obtain⟨q,i,k⟩:=kM d;obtain⟨x,r,n,rfl⟩:=XH (l4 i);exact(JW k).trans vM
  |false=>exact(JW d).trans vM
def JX{E:En}{g:CL}{j:Nat->Bool}{c:Array Oper}{k:Nat}:∀{l:List Oper} {i:Nat} {a:List It} {s d:GT},sS l k=false->qB E g j c l i a s=.ok d->lk d.l k none=lk s.l k none
 |[],i,a,s,d,f,h=>by
  have h:BY 60 (Mc (pK c.toList []) (kq a)) (.ok s)=.ok d:=h;obtain⟨_,e⟩:=kQ h;cases e;rfl
 |o::l,i,a,s,d,f,h=>by
  obtain⟨d1,d2⟩:=nP f;rw[nS]at h;obtain⟨b,r,e⟩:=iH h;cases b with
  |true=>
   obtain⟨⟨t,u⟩,p,q⟩:=kM e;obtain⟨x,v,n,rfl⟩:=XI (l4 p);exact(JX d2 q).trans (D6 d1)
  |false=>exact(JX d2 e).trans (D6 d1)
def JY{E:En}{g:CL}{j:Nat->Bool}{c:Array Oper}:∀{l:List Oper} {i:Nat} {a:List It} {s d:GT},qB E g j c l i a s=.ok d->d.e=s.e
 |[],i,a,s,d,h=>by
  have h:BY 60 (Mc (pK c.toList []) (kq a)) (.ok s)=.ok d:=h;obtain⟨_,f⟩:=kQ h;cases f;rfl
 |o::l,i,a,s,d,h=>by
  rw[nS]at h;obtain⟨b,q,f⟩:=iH h;cases b with
  |true=>
   obtain⟨⟨t,r⟩,k,p⟩:=kM f;obtain⟨x,u,n,rfl⟩:=XI (l4 k);exact(JY p).trans vM
  |false=>exact(JY f).trans vM
def B2{e:List Nat}{b:List Oper}:i∈qC e b↔sS b i=true/\e.elem i=true:=by
 unfold qC sS;rw[ade,adw];constructor
 .rintro⟨o,f,h⟩;cases a:o.dst with
  |none=>rw[a]at h;cases h
  |some d=>
   rw[a]at h;simp only at h;cases c:e.elem d with
   |false=>rw[c]at h;cases h
   |true=>rw[c]at h;cases h;exact⟨⟨o,f,by rw[a];simp⟩,c⟩
 .rintro⟨⟨o,f,h⟩,c⟩;refine⟨o,f,?_⟩;cases a:o.dst with
  |none=>rw[a]at h;cases h
  |some d=>
   rw[a]at h;simp only at h|-;have:=a6 h;subst this;rw[c];rfl
def JZ{P:Program}{C:CL}(L:P.follows .mixedOrders=true)(D:E.G=de.G)(F:dN P E.tab)(H:qv P E.orc)(I:qz P E.ext)(p:xy P C){m:Nat}{M:Nat->Nat->Bool}{q:List Nat}{id:Nat}{a:Array Oper}(b:tH m (.region id a d)=true){A:GT}
 (B:Qd q s)(h:Rd E C M q id a d s=.ok (x,A)):W P m (.region id a d) (fun y t=>y=x/\t=A.st) s.st/\Qd q A:=by
 obtain⟨f,g,u⟩:=kM h;cases u;have g:=l4 g;have b:(a.toList.all (iz m))=true/\(!d||(xS a&&Q7 a))=true:=by simpa[tH]using b
 have N:∀i,sS a.toList i=false->lk f.l i none=none:=by
  intro i J;have K:lk s.l i none=none:=by rw[B.l];rfl
  cases d with
  |false=>exact(JV J g).1.trans K
  |true=>exact(JX J g).trans K
 have O:f.e=s.e:=by
  cases d with
  |false=>exact JW g
  |true=>exact JY g
 have w:(GT.st ⟨.e,jJ f.l (qC q a.toList) s.e,f.h,f.n⟩).le f.st:=by
  refine⟨fun i v k=>?_,fun _=>.inl rfl,rfl⟩;have k:lk (jJ f.l (qC q a.toList) s.e) i none=some v:=k;show lk f.l i (lk f.e i none)=some v;rw[O];have R:∀(l:Ev) z,lk l i z=match lk l i none with|some x=>some x|none=>z:=by
   intro l z;induction l with
   |e=>rfl
   |c j v r ih=>rw[l5,l5];by_cases e:i=j<;>simp[e,ih]
  rw[vL]at k;rw[R];split at k
  .next p=>rw[k]
  .next p=>
   cases hq:lk f.l i none with
   |none=>exact k
   |some y=>
    exfalso;refine p ⟨B2.2 ⟨?_,B.e i v k⟩,by rw[hq];rfl⟩;cases S:sS a.toList i with
    |true=>rfl
    |false=>rw[N i S]at hq;cases hq
 refine⟨?_,rfl,fun i v k=>?_⟩
 .cases d with
  |false=>exact(QL (Q:=fun y t=>y=.normal/\t=f.st) b.1 (D5 (fun t e=>⟨rfl,e⟩) (sY D F H I p b.1 g))).forget fun x t ⟨g,u⟩=>⟨_,u▸w,g,rfl⟩
  |true=>
   have o:xS a=true/\Q7 a=true:=by simpa using b.2
   exact(Yi (Q:=fun y t=>y=.normal/\t=f.st) L b.1 o.1 (GM (fun t e=>⟨rfl,e⟩) (sZ D F H I p o.2 b.1 (by simp) g))).forget fun x t ⟨g,u⟩=>⟨_,u▸w,g,rfl⟩
 .rw[vL]at k;split at k
  .next p=>exact(B2.1 p.1).2
  .exact B.e i v k
end
section
variable[de]
def Yy(l:Ev):List Nat->List Nat:=Ev.rec (fun a=>a) (fun _ v _ ih a=>Gt v (ih a)) l
def onE(K:HL)(l:Ev):Bool:=Ev.rec true (fun _ v _ ih=>Bool.rec false ih (UN K v)) l
def gc2(a:Nat)(s:GT)(K:HL):GT:=Bool.rec s (Bool.rec s ⟨.e,s.e,K,uc K a⟩ (onE K s.e)) (okK K (uc K a) K)
def xW(a:Nat)(s:GT):GT:=Bool.rec s (gc2 a s (reach s.h 100000 (Yy s.e []) [])) (Nat.ble (Nat.add a 48) s.n)
def V.B3{c:Kd}(D:∀k b,c k=some b->k<n)(x:V):V.on c x=true->V.lt n x=true:=by
 have A:∀k,(c k==some false)=true->Nat.blt k n=true:=fun k h=>by
  have:c k=some false:=by simpa using h
  have:=D k _ this;simpa using this
 have J:∀k,(c k).isSome=true->Nat.blt k n=true:=fun k h=>by
  cases H:c k with
  |none=>rw[H]at h;cases h
  |some b=>have:=D k b H;simpa using this
 refine V.rec (motive_1:=fun x=>V.on c x=true->V.lt n x=true) (motive_2:=fun l=>V.xx c l=true->V.nk n l=true) ?_ ?_ ?_ ?_ ?_ ?_ ?_ ?_ ?_ ?_ ?_ ?_ x
 .intro d _;simp[V.lt]
 .intro k i j h;simp only[V.on]at h;simp only[V.lt];exact A k h
 .intro k e sz I h;simp only[V.on]at h;simp only[V.lt];exact J k h
 .intro k L m h;simp only[V.on]at h;simp only[V.lt];exact A k h
 .intro l ih h;simp only[V.on]at h;simp only[V.lt];exact ih h
 .intro l _;simp[V.lt]
 .intro l ih h;simp only[V.on]at h;simp only[V.lt];exact ih h
 .intro fn a b B C h;simp only[V.on,ax]at h;simp only[V.lt,ax];exact⟨B h.1,C h.2⟩
 .intro k h;simp only[V.on]at h;simp only[V.lt];exact A k h
 .intro k h;simp only[V.on]at h;simp only[V.lt];exact A k h
 .intro _;simp[V.nk]
 .intro y l B C h;simp only[V.xx,ax]at h;simp only[V.nk,ax];exact⟨B h.1,C h.2⟩
def V.Re{c:Kd}{n:Nat}(j:∀k b,c k=some b->k<n):∀l:List V,V.xx c l=true->V.nk n l=true
 |[],_=>by simp[V.nk]
 |x::l,h=>by
  simp only[V.xx,ax]at h;simp only[V.nk,ax];exact⟨V.B3 j x h.1,V.Re j l h.2⟩
def dX.B3{c:Kd}{n:Nat}(j:∀k b,c k=some b->k<n){o:dX}(h:o.on c):o.lt n:=by
 cases o with
 |row sz A C=>exact fun r D=>V.Re j r (h r D)
 |map H=>exact fun e B=>⟨V.B3 j _ (h e B).1,V.B3 j _ (h e B).2⟩
 |tok n=>trivial
 |it s p=>trivial
def Rf{K:HL}:∀{l:Ev},onE K l=true->∀i x,lk l i none=some x->V.on (si K) x=true
 |.e,_,i,x,h=>by cases h
 |.c _ _ l,h,i,x,a=>by
  obtain⟨b,d⟩:=ic h;rw[l5]at a;split at a
  .cases a;exact yG _ b
  .exact Rf d i x a
def D7{n0:Nat}(j:s.l=.e):xW n0 s=s\/(Gc n0 s.st (xW n0 s).st/\(xW n0 s).l=.e/\(xW n0 s).e=s.e):=by
 unfold xW;cases Nat.ble (Nat.add n0 48) s.n with
 |false=>exact .inl rfl
 |true=>
  have f:=kR (h:=s.h) 100000 (Yy s.e []) [] (fun k o p=>by cases p);generalize reach s.h 100000 (Yy s.e []) []=K at f;show gc2 n0 s K=s\/_;unfold gc2;cases q:okK K (uc K n0) K with
  |false=>exact .inl rfl
  |true=>
   cases r:onE K s.e with
   |false=>exact .inl rfl
   |true=>
    right;have c:=JO q;have g:∀k b,si K k=some b->k<uc K n0:=fun k b t=>by obtain⟨o,u,_⟩:=qq t;exact xV u
    refine⟨⟨L8,fun k o d=>⟨xV d,f k o d,dX.B3 g (c _ (lZ d)).1⟩,fun i x a=>?_⟩,rfl,rfl⟩;have a:lk s.e i none=some x:=a;refine⟨?_,V.B3 g x (Rf r i x a)⟩;show lk s.l i (lk s.e i none)=some x;rw[j];exact a
def J0(r:Rs (Exit×GT))(k:GT->Rs (Exit×GT)):Rs (Exit×GT):=Rs.rec (fun p=>Exit.rec (k p.2) (fun l=>.ok (.exit l,p.2)) (fun l=>.ok (.goto l,p.2)) (.ok (.ret,p.2)) (fun c=>.ok (.panic c,p.2)) (.ok (.outgrown,p.2)) p.1) (fun l=>.no l) r
def wZ(a:GT->Rs (Exit×GT))(b:Nat)(n:Nat):GT->Rs (Exit×GT):=Nat.rec (fun _=>.no [61]) (fun _ ih s=>J0 (a s) fun s=>ih (xW b s)) n
def U5(id:Nat)(r:Rs (Exit×GT)):Rs (Exit×GT):=match r with
 |.ok (.exit l,s)=>bif Nat.beq l id then .ok (.normal,s)else .ok (.exit l,s)
 |r=>r
def U6(c:Option V)(a b:GT->Rs (Exit×GT))(s:GT):Rs (Exit×GT):=match c with
 |some (.d (.b true))=>a s
 |some (.d (.b false))=>b s
 |_=>.no [62]
def D8(b:Code->GT->Rs (Exit×GT))(c:Code)(d:Nat)(n:Nat):Rs (Exit×GT)->Rs (Exit×GT):=Nat.rec (fun _=>.no [63]) (fun _ ih r=>match r with
 |.ok (.goto l,s)=>ro 64 (findLabel c l) fun a=>ih (b a (xW d s))
 |r=>r) n
def na(f:Code->GT->Rs (Exit×GT))(E:En)(cl:CL)(mu:Nat->Nat->Bool)(kp:List Nat)(d:Code):GT->Rs (Exit×GT):=Code.rec
 (motive:=fun _=>GT->Rs (Exit×GT))
 (fun s=>.ok (Exit.normal,s)) (fun id g d s=>Rd E cl mu kp id g d s) (fun _ _ a b s=>J0 (a s) b)
 (fun c _ _ a b s=>U6 (vC E.G s c) a b s) (fun id _ a s=>U5 id (a s)) (fun _ a s=>wZ a s.n E.K s) (fun _ _ _ _ _ _ _=>.no [65]) (fun id s=>.ok (Exit.exit id,s))
 (fun e a s=>D8 f e s.n E.K (a s)) (fun _ s=>.ok (Exit.normal,s)) (fun l s=>.ok (Exit.goto l,s)) (fun s=>.ok (Exit.ret,s)) (fun _ _=>.no [66]) d
def sem(E:En)(cl:CL)(mu:Nat->Nat->Bool)(kp:List Nat)(a:Nat):Code->GT->Rs (Exit×GT):=Nat.rec (fun _ _=>.no [67]) (fun _ ih=>na ih E cl mu kp) a
section
variable{P:Program}{E:En}{cl:CL}{m:Nat}{mu:Nat->Nat->Bool}{kp:List Nat}
def SOk(P:Program)(m:Nat)(kp:List Nat)(d:Code)(f:GT->Rs (Exit×GT)):Prop:=
 ∀s x a,Qd kp s->f s=.ok (x,a)->W P m d (fun y t=>y=x/\t=a.st) s.st/\Qd kp a
def D9{d:Code}{Q:Exit->St->Prop}(b:SOk P m kp d f){a:GT}(c:Qd kp s)(h:f s=.ok (x,a))(hq:Q x a.st):W P m d Q s.st:=
 (b s x a c h).1.mono fun y t ⟨e,g⟩=>by subst e;subst g;exact hq
def nF:∀{d c:Code} {l:Nat},findLabel d l=some c->tH m d=true->tH m c=true
 |.seq a b,c,l,h,e=>by
  have e:tH m a=true/\tH m b=true:=by simpa[tH]using e
  unfold findLabel at h;split at h
  .next r f=>cases h;simp[tH,nF f e.1,e.2]
  .exact nF h e.2
 |.label g,c,l,h,e=>by
  unfold findLabel at h;split at h
  .cases h;rfl
  .cases h
 |.skip,c,l,h,e=>by cases h
 |.region _ _ _,c,l,h,e=>by cases h
 |.cond _ _ _,c,l,h,e=>by cases h
 |.block _ _,c,l,h,e=>by cases h
 |.loop _,c,l,h,e=>by cases h
 |.rangeFunc _ _ _ _,c,l,h,e=>by cases h
 |.exit _,c,l,h,e=>by cases h
 |.scope _,c,l,h,e=>by cases h
 |.goto _,c,l,h,e=>by cases h
 |.ret,c,l,h,e=>by cases h
 |.refuse _,c,l,h,e=>by cases h
def Rg(b:Qd kp s):Qd kp (xW a s):=by
 rcases D7 (n0:=a) b.l with h|⟨_,c,d⟩
 .rw[h];exact b
 .exact⟨c,fun i x f=>b.e i x (by rw[<-d];exact f)⟩
def J1{d:Code}(j:SOk P m kp d f)(a:Nat)(n:Nat):∀(s b:GT) (x:Exit),Qd kp s->wZ f a n s=.ok (x,b)->WG P m d a (fun y t=>y=x/\t=b.st) n s.st/\Qd kp b:=by
 induction n with
 |zero=>intro s b x i h;cases h
 |succ n ih=>
  intro s b x i h;have h:J0 (f s) (fun s=>wZ f a n (xW a s))=.ok (x,b):=h;cases g:f s with
  |no l=>rw[g]at h;cases h
  |ok p=>
   obtain⟨y,o⟩:=p;rw[g]at h;have c:=(j s y o i g).2;cases y with
   |normal=>
    have h:wZ f a n (xW a o)=.ok (x,b):=h;obtain⟨k,q⟩:=ih _ b x (Rg c) h;refine⟨D9 j i g ?_,q⟩;rcases D7 (n0:=a) c.l with e|⟨e,_,_⟩
    .rw[e]at k;exact .inl k
    .exact .inr ⟨_,e,k⟩
   |_=>cases h;exact⟨D9 j i g ⟨rfl,rfl⟩,c⟩
def je(z:P.follows .mixedOrders=true)(w:E.G=de.G)(A:dN P E.tab)(B:qv P E.orc)(C:qz P E.ext)(D:xy P cl){r:Code->GT->Rs (Exit×GT)}(F:∀d,tH m d=true->SOk P m kp d (r d)):∀d:Code,tH m d=true->SOk P m kp d (na r E cl mu kp d)
 |.skip,c=>fun s x i g h=>by cases h;exact⟨Yd ⟨rfl,rfl⟩,g⟩
 |.label l,c=>fun s x i g h=>by cases h;exact⟨UG ⟨rfl,rfl⟩,g⟩
 |.exit l,c=>fun s x i g h=>by cases h;exact⟨Ye ⟨rfl,rfl⟩,g⟩
 |.goto l,c=>fun s x i g h=>by cases h;exact⟨Yf ⟨rfl,rfl⟩,g⟩
 |.ret,c=>fun s x i g h=>by cases h;exact⟨aam ⟨rfl,rfl⟩,g⟩
 |.refuse _,c=>fun s x i g h=>by cases h
 |.rangeFunc _ _ _ _,c=>fun s x i g h=>by cases h
 |.region id Q d,c=>fun s x i g h=>JZ z w A B C D c g h
 |.seq a b,c=>fun s x i g h=>by
  have c:tH m a=true/\tH m b=true:=by simpa[tH]using c
  have u:=je z w A B C D F a c.1;have I:=je z w A B C D F b c.2;have h:J0 (na r E cl mu kp a s) (na r E cl mu kp b)=.ok (x,i):=h;cases q:na r E cl mu kp a s with
  |no l=>rw[q]at h;cases h
  |ok p=>
   obtain⟨y,v⟩:=p;rw[q]at h;have j:=(u s y v g q).2;cases y with
   |normal=>exact⟨XA (D9 u g q (I v x i j h).1),(I v x i j h).2⟩
   |_=>cases h;exact⟨XA (D9 u g q ⟨rfl,rfl⟩),j⟩
 |.cond o a b,c=>fun s x i g h=>by
  have c:tH m a=true/\tH m b=true:=by simpa[tH]using c
  have h:U6 (vC E.G s o) (na r E cl mu kp a) (na r E cl mu kp b) s=.ok (x,i):=h;rw[yL w]at h;unfold U6 at h;split at h
  .next L=>
   have u:=je z w A B C D F a c.1 s x i g h;exact⟨QM L (fun _=>u.1) (fun e=>by cases e),u.2⟩
  .next L=>
   have I:=je z w A B C D F b c.2 s x i g h;exact⟨QM L (fun e=>by cases e) (fun _=>I.1),I.2⟩
  .cases h
 |.block id a,c=>fun s x i g h=>by
  have u:=je z w A B C D F a c;have h:U5 id (na r E cl mu kp a s)=.ok (x,i):=h;cases q:na r E cl mu kp a s with
  |no l=>rw[q]at h;cases h
  |ok p=>
   obtain⟨y,v⟩:=p;rw[q]at h;have j:=(u s y v g q).2;cases y with
   |exit l=>
    have h:(bif Nat.beq l id then Rs.ok (Exit.normal,v)else Rs.ok (Exit.exit l,v))=.ok (x,i):=h;rw[lj]at h;by_cases e:l=id
    .rw[bf e]at h;cases h;exact⟨DI (D9 u g q (by show ite _ _ _;rw[aS e];exact⟨rfl,rfl⟩)),j⟩
    .rw[aA e]at h;cases h;exact⟨DI (D9 u g q (by show ite _ _ _;rw[aI e];exact⟨rfl,rfl⟩)),j⟩
   |_=>cases h;exact⟨DI (D9 u g q ⟨rfl,rfl⟩),j⟩
 |.loop a,c=>fun s x i g h=>by
  have u:=je z w A B C D F a c;have:=J1 u s.n E.K s i x g h;exact⟨N7 E.K this.1,this.2⟩
 |.scope a,c=>fun s x i g h=>by
  have c:tH m a=true:=c;have u:=je z w A B C D F a c;have h:D8 r a s.n E.K (na r E cl mu kp a s)=.ok (x,i):=h;have M:∀(H:Nat) (n:Nat) (d:Code) (f:GT->Rs (Exit×GT)) (s:GT),SOk P m kp d f->Qd kp s->D8 r a H n (f s)=.ok (x,i)->WH P m a H (fun y t=>y=x/\t=i.st) n d s.st/\Qd kp i:=by
   intro H n;induction n with
   |zero=>intro d f s J g h;cases h
   |succ n ih=>
    intro d f s J g h;cases q:f s with
    |no l=>rw[q]at h;cases h
    |ok p=>
     obtain⟨y,v⟩:=p;rw[q]at h;have j:=(J s y v g q).2;cases y with
     |goto l=>
      have h:ro 64 (findLabel a l) (fun k=>D8 r a H n (r k (xW H v)))=.ok (x,i):=h;obtain⟨k,O,R⟩:=iH h;have S:=F k (nF O c);obtain⟨N,T⟩:=ih k (r k) _ S (Rg j) R;refine⟨D9 J g q ⟨k,O,?_⟩,T⟩;rcases D7 (n0:=H) j.l with e|⟨e,_,_⟩
      .rw[e]at N;exact .inl N
      .exact .inr ⟨_,e,N⟩
     |_=>cases h;exact⟨D9 J g q ⟨rfl,rfl⟩,j⟩
  have:=M s.n E.K a (na r E cl mu kp a) s u g h;exact⟨Rc E.K this.1,this.2⟩
def B4(c:P.follows .mixedOrders=true)(e:E.G=de.G)(f:dN P E.tab)(g:qv P E.orc)(i:qz P E.ext)(j:xy P cl):∀(b:Nat) (d:Code),tH m d=true->SOk P m kp d (sem E cl mu kp b d)
 |0,d,a=>fun s x k l h=>by cases h
 |n+1,d,a=>je c e f g i j (fun d h=>B4 c e f g i j n d h) d a
end
structure J2(P:Program)(E:En):Prop where
 Yr:∀f q,E.Yr f=some q->P.funcs[f]? =some q.fn/\fW P f/\∀c,q.fn.body=some c->tH q.fn.ntmps c=true
 tab:dN P E.tab
 orc:qv P E.orc
 ext:qz P E.ext
 mo:P.follows .mixedOrders=true
 G:E.G=de.G
def qD(kp:List Nat)(l:List V):Nat->Ev:=List.rec (fun _=>.e) (fun x _ ih i=>Bool.rec (ih (Nat.succ i)) (.c i x (ih (Nat.succ i))) (kp.elem i)) l
def GN(b:gI)(s:GT)(l:List ResultVar):Option (List V):=List.rec (some []) (fun r _ ih=>Option.rec none (fun x=>Option.rec none (fun l=>some (x::l)) ih) (ResultVar.rec (fun t=>lk s.l t (lk s.e t none)) (fun a t=>ob (lk s.l a (lk s.e a none)) fun x=>nO b (dx s.h) t x) r)) l
def Ea{b:gI}{s:GT}:∀l:List ResultVar,GN b s l=yB b s.st l
 |[]=>rfl
 |.tmp t::l=>by
  unfold yB;rw[<-Ea l];show(Option.rec none (fun x=>Option.rec none (fun l=>some (x::l)) (GN b s l)) (lk s.l t (lk s.e t none)):Option (List V))=match lk s.l t (lk s.e t none),GN b s l with|some x,some l=>some (x::l)|_,_=>none
  cases lk s.l t (lk s.e t none)<;>cases GN b s l<;>rfl
 |.cell a t::l=>by
  unfold yB;rw[<-Ea l];show(Option.rec none (fun x=>Option.rec none (fun l=>some (x::l)) (GN b s l)) (ob (lk s.l a (lk s.e a none)) fun x=>nO b (dx s.h) t x):Option (List V))=match(lk s.l a (lk s.e a none)).bind (nO b (dx s.h) t),GN b s l with|some x,some l=>some (x::l)|_,_=>none
  rw[ei];cases(lk s.l a (lk s.e a none)).bind (nO b (dx s.h) t)<;>cases GN b s l<;>rfl
def aau(l:List V):V:=List.rec (.tu []) (fun x r _=>List.rec x (fun _ _ _=>.tu (x::r)) r) l
def U7{a:gI}{s:St}{b:List ResultVar}{l:List V}(h:yB a s b=some l):NS a s b=some (aau l):=by
 unfold NS;rw[h]
 match l with
 |[]=>rfl
 |[x]=>rfl
 |x::y::r=>rfl
def Eb(E:En)(fn:Func)(s:GT):Rs (V×HL×Nat):=ro 68 (GN E.tab s fn.results.toList) fun l=>.ok (aau l,s.h,s.n)
def Yz(E:En)(cl:CL)(f:FuncId)(args:List V)(h:HL)(n:Nat):Rs (V×HL×Nat):=
 pN (Nat.add 20000 f) (ro 69 (E.Yr f) fun q=>ro 59 q.fn.body fun c=>BY 58 (Nat.ble (qg args) q.fn.ntmps) (rb (sem E cl q.mu q.kp E.lvl c ⟨.e,qD q.kp args 0,h,n⟩) fun r=>Exit.rec (Eb E q.fn r.2) (fun _=>.no [57]) (fun _=>.no [57]) (Eb E q.fn r.2) (fun _=>.no [57]) (.no [57]) r.1))
def yS{kp:List Nat}:∀{l:List V} {k i:Nat} {x:V},lk (qD kp l k) i none=some x->kp.elem i=true/\k<=i/\l[i-k]? =some x
 |[],k,i,x,h=>by cases h
 |y::l,k,i,x,h=>by
  have h:lk (Bool.rec (qD kp l (k+1)) (.c k y (qD kp l (k+1))) (kp.elem k)) i none=some x:=h;have d:lk (qD kp l (k+1)) i none=some x->kp.elem i=true/\k<=i/\(y::l)[i-k]? =some x:=fun h=>by
   obtain⟨a,b,c⟩:=yS h;refine⟨a,by omega,?_⟩;have:i-k=(i-(k+1))+1:=by omega
   rw[this];exact c
  cases g:kp.elem k with
  |false=>rw[g]at h;exact d h
  |true=>
   rw[g]at h;have f:(if i=k then some y else lk (qD kp l (k+1)) i none)=some x:=by rw[<-l5];exact h
   by_cases e:i=k
   .rw[aS e]at f;cases f;subst e;exact⟨g,Nat.le_refl _,by simp⟩
   .rw[aI e]at f;exact d f
def U8{P:Program}{E:En}(j:J2 P E){cl:CL}(F:xy P cl):xy P (Yz E cl):=by
 intro f args h n r B C b;have b:=l4 b;obtain⟨q,H,b⟩:=iH b;obtain⟨c,D,b⟩:=iH b;obtain⟨v,b⟩:=kQ b;obtain⟨⟨x,s⟩,I,b⟩:=kM b;rw[ni]at v;have v:=Nat.le_of_ble_eq_true v;obtain⟨J,K,L⟩:=j.Yr f q H;have M:Qd q.kp ⟨.e,qD q.kp args 0,h,n⟩:=⟨rfl,fun i x N=>(yS N).1⟩;have O:=(B4 j.mo j.G j.tab j.orc j.ext F (m:=q.fn.ntmps) (mu:=q.mu) E.lvl c (L c D) _ x s M I).1;refine⟨K,UH j.tab J D v ?_⟩;have z:(GT.st ⟨.e,qD q.kp args 0,h,n⟩).le ⟨fun i=>args[i]?,dx h,n⟩:=by
  refine⟨fun i y A=>?_,fun _=>.inl rfl,rfl⟩;have:=(yS (k:=0) (show lk (qD q.kp args 0) i none=some y from A)).2.2;simpa using this
 have Q:W P q.fn.ntmps c (fun y t=>y=x/\t=s.st) ⟨fun i=>args[i]?,dx h,n⟩:=by
  intro g a w u;obtain⟨d,o⟩:=u.aas z;refine ma (O g a w d) fun x' a' w' ⟨R,S,T,U,V,X⟩=>⟨R,S,T,U,o.trans V,X⟩
 have fin:Eb E q.fn s=.ok (r,B,C)->∃p,NS E.tab s.st q.fn.results.toList=some p/\(p=r/\s.st.h=dx B/\s.st.n=C):=fun Y=>by
  obtain⟨l,d,o⟩:=iH Y;cases o;rw[Ea]at d;exact⟨_,U7 d,rfl,rfl,rfl⟩
 refine Q.mono fun y t ⟨A,Z⟩=>?_;subst A;subst Z;cases y with
 |normal=>obtain⟨p,d,o⟩:=fin b;exact⟨.inl rfl,p,d,o⟩
 |ret=>obtain⟨p,d,o⟩:=fin b;exact⟨.inr rfl,p,d,o⟩
 |_=>cases b
inductive FT where
 |e
 |n(k:FuncId)(v:Ent)(l r:FT)
def FT.get(t:FT)(f:FuncId):Option Ent:=FT.rec none (fun k v _ _ a b=>Bool.rec (Bool.rec b a (Nat.ble f k)) (some v) (Nat.beq k f)) t
def FT.All(P:Program):FT->Prop
 |.e=>True
 |.n k v l r=>(P.funcs[k]? =some v.fn/\fW P k/\∀c,v.fn.body=some c->tH v.fn.ntmps c=true)/\l.All P/\r.All P
def FT.Ec{P:Program}{f:FuncId}{q:Ent}:∀{t:FT},t.All P->t.get f=some q->P.funcs[f]? =some q.fn/\fW P f/\∀c,q.fn.body=some c->tH q.fn.ntmps c=true
 |.e,_,h=>by cases h
 |.n k v l r,j,h=>by
  have h:(Bool.rec (Bool.rec (r.get f) (l.get f) (Nat.ble f k)) (some v) (Nat.beq k f):Option Ent)=some q:=h;cases A:Nat.beq k f with
  |true=>
   rw[A]at h;cases h;have:=a6 A;subst this;exact j.1
  |false=>
   rw[A]at h;cases B:Nat.ble f k with
   |true=>rw[B]at h;exact FT.Ec j.2.1 h
   |false=>rw[B]at h;exact FT.Ec j.2.2 h
end
section
variable[de]
abbrev R:=Rs (V×HL×Nat)
def evq(G:Nat->Option (Nat×List (List D)))(l e:Ev)(x:Operand):Option V:=Operand.rec (fun t=>lk l t (lk e t none)) (fun v=>yA v) (fun k=>ob (G k) fun p=>some (.d (.q p.1 p.2 0 0))) (fun f=>some (.d (.f (.func f) [] []))) x
def YA(G:Nat->Option (Nat×List (List D)))(l e:Ev)(x:Operand):evq G l e x=vC G ⟨l,e,[],0⟩ x:=by cases x<;>rfl
def evK(G:Nat->Option (Nat×List (List D)))(l e:Ev)(x:Operand)(t:Nat)(k:V->R):R:=Option.rec (.no [t,70]) k (evq G l e x)
def yT(G:Nat->Option (Nat×List (List D)))(l e:Ev)(h:HL)(n:Nat):vC G ⟨l,e,h,n⟩=vC G ⟨l,e,[],0⟩:=by funext x;cases x<;>rfl
def J3{G:Nat->Option (Nat×List (List D))}{x:Operand}{k:V->R}(h:evK G l e x t k=.ok r)(a:HL)(n:Nat):∃v,vC G ⟨l,e,a,n⟩ x=some v/\k v=.ok r:=by
 unfold evK at h;rw[YA]at h;rw[yT G l e a n];cases b:vC G ⟨l,e,[],0⟩ x with
 |none=>rw[b]at h;cases h
 |some v=>rw[b]at h;exact⟨v,rfl,h⟩
def vN(l:HL):(HL->R)->R:=List.rec (fun k=>k []) (fun p _ ih k=>Prod.rec (fun j o=>dX.rec (fun sz a b=>ih fun r=>k ((j,.row sz a b)::r)) (fun n=>ih fun r=>k ((j,.tok n)::r)) (fun s p=>ih fun r=>k ((j,.it s p)::r)) (fun c=>ih fun r=>k ((j,.map c)::r)) o) p) l
def jR:∀(l:HL) (k:HL->R),vN l k=k l
 |[],k=>rfl
 |(j,o)::l,k=>by
  cases o with
  |row sz a b=>exact jR l _
  |tok n=>exact jR l _
  |it s p=>exact jR l _
  |map c=>exact jR l _
def vO(n:Nat)(k:Nat->R):R:=Nat.rec (k 0) (fun m _=>k (Nat.succ m)) n
def rI(n:Nat)(k:Nat->R):vO n k=k n:=by cases n<;>rfl
abbrev Ko:=V->HL->Nat->R
abbrev Hk:=En->Nat->Bool->Ev->Ev->HL->Nat->Ko->R
def YB(op:Op):Hk:=fun E t a l e h n k=>Rs.rec (fun out=>Out.rec (fun x b m=>vO (Bj n m) (k x (GC n b h))) out) (fun z=>.no (t::z)) (pA E a ⟨l,e,h,n⟩ op)
def aav(op:Op)(f:Hk):Prop:=∀E t a l e h n k r,f E t a l e h n k=.ok r->∃out,pA E a ⟨l,e,h,n⟩ op=.ok out/\k out.x (GC n out.us h) (Bj n out.n)=.ok r
def U9(op:Op):aav op (YB op):=by
 intro E t c l e h n k r a;unfold YB at a;cases b:pA E c ⟨l,e,h,n⟩ op with
 |ok out=>rw[b]at a;exact⟨out,rfl,(rI _ _).symm.trans a⟩
 |no z=>rw[b]at a;cases a
inductive Oi where|no|mk(k:IntKind)(n:Int)
def asB(v:V):Option Bool:=V.rec (motive_1:=fun _=>Option Bool) (motive_2:=fun _=>PUnit) (fun d=>D.rec (motive_1:=fun _=>Option Bool) (motive_2:=fun _=>PUnit) (motive_3:=fun _=>PUnit) (fun _ _=>none) (fun _ _ _ _=>none) (fun b=>some b) (fun _=>none) none none none none (fun _ _ _=>none) (fun _ _ _ _ _=>none) (fun _ _ _ _ _=>none) (fun _=>none) ⟨⟩ (fun _ _ _ _=>⟨⟩) ⟨⟩ (fun _ _ _ _=>⟨⟩) d) (fun _ _ _=>none) (fun _ _ _ _=>none) (fun _ _ _=>none) (fun _ _=>none) (fun _=>none) (fun _ _=>none) (fun _ _ _ _ _=>none) (fun _=>none) (fun _=>none) ⟨⟩ (fun _ _ _ _=>⟨⟩) v
def onB(v:V)(f:Bool->R)(z:R):R:=Option.rec (motive:=fun _=>R) z f (asB v)
def N8(v:V)(f:Bool->R)(z:R):(∃b,v=.d (.b b)/\onB v f z=f b)\/onB v f z=z:=by
 cases v with
 |d d=>cases d with
  |b b=>exact .inl ⟨b,rfl,rfl⟩
  |_=>exact .inr rfl
 |_=>exact .inr rfl
end
section
variable[de]
inductive Oq where|no|p(k i j:Nat)|q(sz:Nat)(rows:List (List D))(i j:Nat)
inductive Ol where|no|l(sz:Nat)(rows:List (List D))|v(k lo n:Nat)
def asS(v:V):Option (List Sb):=V.rec (motive_1:=fun _=>Option (List Sb)) (motive_2:=fun _=>PUnit) (fun d=>D.rec (motive_1:=fun _=>Option (List Sb)) (motive_2:=fun _=>PUnit) (motive_3:=fun _=>PUnit) (fun _ _=>none) (fun _ _ _ _=>none) (fun _=>none) (fun s=>some s) none none none none (fun _ _ _=>none) (fun _ _ _ _ _=>none) (fun _ _ _ _ _=>none) (fun _=>none) ⟨⟩ (fun _ _ _ _=>⟨⟩) ⟨⟩ (fun _ _ _ _=>⟨⟩) d) (fun _ _ _=>none) (fun _ _ _ _=>none) (fun _ _ _=>none) (fun _ _=>none) (fun _=>none) (fun _ _=>none) (fun _ _ _ _ _=>none) (fun _=>none) (fun _=>none) ⟨⟩ (fun _ _ _ _=>⟨⟩) v
inductive Oa where|no|a(cs:List D)|g(cs:List V)
inductive Ow where|no|mk(sz:Nat)(rows:List (List V))(vec:Bool)
end
section
variable[de]
def Ed{α:Type}(l:List α)(x:α):Nat->List α:=List.rec (fun _=>[]) (fun y r ih i=>Nat.rec (x::r) (fun j _=>y::ih j) i) l
end
section
variable[de]
inductive Ot where|no|mk(k e sz:Nat)(rows:List (List D))
def cvT(a:gI)(s d:TypeId):Option IntKind:=match a s,a d with
 |some ⟨.int _,_,_,_⟩,some ⟨.int k,_,_,_⟩=>some k
 |_,_=>none
def opK(op:Op):Hk:=YB op
def Rh(op:Op):aav op (opK op):=U9 op
def ue(op:Op):Option (Operand×Array Operand):=Op.rec (motive:=fun _=>Option (Operand×Array Operand)) (fun _=>none) (fun _=>none) (fun _ _ _=>none) (fun _=>none) (fun _ _=>none) (fun _ _=>none) (fun _ _ _=>none) (fun _ _ _ _=>none) (fun _ _=>none) (fun _ _ _=>none) (fun _=>none) (fun _=>none) (fun _=>none) (fun _ _ _ _ _=>none) (fun _ _ _=>none) (fun _ _ _=>none) (fun _ _=>none) (fun _ _=>none) (fun _ _ _=>none) (fun _ _=>none) (fun _ _=>none) (fun _ _ _=>none) (fun _ _ _ _ _=>none) (fun _ _ _=>none) (fun _ _ _=>none) (fun _ _ _=>none) (fun _ _ _=>none) (fun _ _ _ _=>none) (fun _ _ _ _=>none) (fun _ _ _=>none) (fun _ _ _ _=>none) (fun _ _=>none) (fun _ _=>none) (fun _=>none) (fun _ _ _ _=>none) (fun _ _=>none) (fun c=>Call.rec (fun f a _=>Callee.rec (fun x=>some (x,a)) (fun _ _=>none) (fun _=>none) f) c) (fun _=>none) (fun _=>none) (fun _=>none) (fun _ _=>none) (fun _ _ _=>none) (fun _ _=>none) op
def ta(op:Op):ue op=mC op:=by
 cases op<;>rfl
def fnD(fn:Fn)(a b:List V):Option (FuncId×List V×List V):=Fn.rec (fun f=>some (f,a,b)) (fun _=>none) (fun _ _=>none) (fun _ _ _ _=>none) (fun _=>none) fn
def B5(l:List D):List V:=List.rec [] (fun d _ ih=>.d d::ih) l
def yU:∀l:List D,B5 l=l.map .d
 |[]=>rfl
 |d::l=>by show V.d d::B5 l=_;rw[yU l];rfl
def xX(v:V):Option (FuncId×List V×List V):=V.rec (motive_1:=fun _=>Option (FuncId×List V×List V)) (motive_2:=fun _=>PUnit) (fun d=>D.rec (motive_1:=fun _=>Option (FuncId×List V×List V)) (motive_2:=fun _=>PUnit) (motive_3:=fun _=>PUnit) (fun _ _=>none) (fun _ _ _ _=>none) (fun _=>none) (fun _=>none) none none none none (fun _ _ _=>none) (fun _ _ _ _ _=>none) (fun fn a b _ _=>fnD fn (B5 a) (B5 b)) (fun _=>none) ⟨⟩ (fun _ _ _ _=>⟨⟩) ⟨⟩ (fun _ _ _ _=>⟨⟩) d) (fun _ _ _=>none) (fun _ _ _ _=>none) (fun _ _ _=>none) (fun _ _=>none) (fun _=>none) (fun _ _=>none) (fun fn a b _ _=>fnD fn a b) (fun _=>none) (fun _=>none) ⟨⟩ (fun _ _ _ _=>⟨⟩) v
def tc(v:V):xX v=ko v:=by
 cases v with
 |d d=>cases d with
  |f fn a b=>
   have h:xX (.d (.f fn a b))=fnD fn (B5 a) (B5 b):=rfl;rw[h,yU,yU];cases fn<;>rfl
  |_=>rfl
 |f fn a b=>cases fn<;>rfl
 |_=>rfl
def GO(E:En)(b:CL)(t:Nat)(l e:Ev)(h:HL)(n:Nat)(x:Operand)(a:Array Operand)(k:Ko):R:=evK E.G l e x t fun v=>
 Option.rec (.no [t,46]) (fun q=>Option.rec (.no [t,47]) (fun c=>Rs.rec (fun d=>Cr.rec (fun x _ _ h n=>vN h fun h=>vO n (k x h)) d) (fun z=>.no (t::z)) (py E b h n q.1 (ig q.2.1 (ig c q.2.2)))) (sj (vC E.G ⟨l,e,[],0⟩) a.toList)) (xX v)
def Ri{f:CL}{x:Operand}{a:Array Operand}{k:Ko}(d:Option Tmp)(b:GO E f t l e h n x a k=.ok r):
 ∃v j m,Q2 E f ⟨l,e,h,n⟩ d x a=.ok (eU ⟨l,e,h,n⟩ d v j m)/\k v j m=.ok r:=by
 obtain⟨v,p,b⟩:=J3 b h n;rw[tc]at b;cases hq:ko v with
 |none=>simp only[hq]at b;cases b
 |some q=>
  simp only[hq]at b;rw[<-yT E.G l e h n]at b;cases g:sj (vC E.G ⟨l,e,h,n⟩) a.toList with
  |none=>simp only[g]at b;cases b
  |some o=>
   simp only[g]at b;cases i:py E f h n q.1 (ig q.2.1 (ig o q.2.2))with
   |no z=>simp only[i]at b;cases b
   |ok c=>
    simp only[i]at b;refine⟨c.x,c.h,c.n,?_,(rI _ _).symm.trans ((jR c.h fun h=>vO c.n (k c.x h)).symm.trans b)⟩;unfold Q2;rw[p];show ro 71 (ko v) _=_;rw[hq];show ro 72 (sj (vC E.G ⟨l,e,h,n⟩) a.toList) _=_;rw[g];show rb (py E f h n q.1 (ig q.2.1 (ig o q.2.2))) _=_;rw[i];rfl
structure Po where
 o:Oper
 g:Option (Option (Tmp×Bool))
def Mf(a:List Oper)(o:Oper):Option (Option (Tmp×Bool)):=Option.rec none (fun p=>some (ob (nth a p.1) fun q=>ob q.dst fun d=>some (d,p.2))) o.guard
def uf(a:List Oper)(l:List Oper):List Po:=List.rec [] (fun o _ ih=>⟨o,Mf a o⟩::ih) l
def Va(v:V)(w:Bool):Option Bool:=V.rec (motive_1:=fun _=>Option Bool) (motive_2:=fun _=>PUnit) (fun d=>D.rec (motive_1:=fun _=>Option Bool) (motive_2:=fun _=>PUnit) (motive_3:=fun _=>PUnit) (fun _ _=>none) (fun _ _ _ _=>none) (fun b=>some (Yq b w)) (fun _=>none) none none none none (fun _ _ _=>none) (fun _ _ _ _ _=>none) (fun _ _ _ _ _=>none) (fun _=>none) ⟨⟩ (fun _ _ _ _=>⟨⟩) ⟨⟩ (fun _ _ _ _=>⟨⟩) d) (fun _ _ _=>none) (fun _ _ _ _=>none) (fun _ _ _=>none) (fun _ _=>none) (fun _=>none) (fun a _=>List.rec (some false) (fun _ _ _=>none) a) (fun _ _ _ _ _=>none) (fun _=>none) (fun _=>none) ⟨⟩ (fun _ _ _ _=>⟨⟩) v
def Ee{c:List Oper}{d:Tmp}{w b:Bool}{v:V}(a:Mf c o=some (some (d,w)))(i:lk l d (lk e d none)=some v)(f:Va v w=some b):Uk c ⟨l,e,h,n⟩ o=some b:=by
 unfold Mf at a;unfold Uk;cases g:o.guard with
 |none=>rw[g]at a;cases a
 |some p=>
  rw[g]at a;have a:(ob (nth c p.1) fun q=>ob q.dst fun d=>some (d,p.2))=some (d,w):=Option.some.inj a;obtain⟨q,j,a⟩:=bK a;obtain⟨r,k,a⟩:=bK a;cases a;show(ob (nth c p.1) _)=_;rw[j];show(ob q.dst _)=_;rw[k];show(match lk l d (lk e d none)with|some (.d (.b x))=>some (Yq x p.2)|some (.tu [])=>some false|_=>none)=_;rw[i];cases v with
  |d x=>cases x with
   |b x=>exact f
   |_=>cases f
  |tu m=>cases m with
   |nil=>exact f
   |cons=>cases f
  |_=>cases f
def yV{a:List Oper}(b:Mf a o=none):Uk a s o=some true:=by
 unfold Mf at b;unfold Uk;cases c:o.guard with
 |none=>rfl
 |some p=>rw[c]at b;cases b
def nT(ih:Nat->Ev->Ev->HL->Nat->(Ev->HL->Nat->R)->R)(a:Option Tmp)(i:Nat)(l e:Ev)(k:Ev->HL->Nat->R):Ko:=fun v h n=>Option.rec (ih (Nat.succ i) l e h n k) (fun d=>ih (Nat.succ i) (.c d v l) e h n k) a
def doK(E:En)(b:CL)(t:Nat)(c:Bool)(op:Op)(l e:Ev)(h:HL)(n:Nat)(a:Ko):R:=Option.rec (opK op E t c l e h n a) (fun q=>GO E b t l e h n q.1 q.2 a) (ue op)
def aaw(T i:Nat)(l e:Ev)(a c:R)(g:Option (Tmp×Bool)):R:=Option.rec (.no [T,i,48]) (fun g=>Option.rec (.no [T,i,49]) (fun v=>Option.rec (.no [T,i,50]) (fun b=>Bool.rec a c b) (Va v g.2)) (lk l g.1 (lk e g.1 none))) g
def N9(E:En)(b:CL)(c:Nat->Bool)(T:Nat)(l:List Po):Nat->Ev->Ev->HL->Nat->(Ev->HL->Nat->R)->R:=
 List.rec (fun _ l e h n k=>k l h n) (fun p _ ih i l e h n k=>Po.rec (fun o g=>Oper.rec (fun a op _ _ _ _=>
  Option.rec (doK E b (Nat.add T i) (c i) op l e h n (nT ih a i l e k)) (aaw T i l e (nT ih a i l e k (.tu []) h n) (doK E b (Nat.add T i) (c i) op l e h n (nT ih a i l e k))) g) o) p) l
def ug(ih:Nat->Ev->Ev->HL->Nat->(Ev->HL->Nat->R)->R)(a:Option Tmp)(i:Nat)(l e:Ev)(k:Ev->HL->Nat->R)(v:V)(h b:HL)(n c:Nat):nT ih a i l e k v h n=ih (Nat.succ i) (eU ⟨l,e,b,c⟩ a v h n).l e h n k:=by
 cases a<;>rfl
def Ef{E:En}{s:CL}{p:Nat->Bool}{T:Nat}{a:List Oper}{k:Ev->HL->Nat->R}{r:V×HL×Nat}:∀{t:List Oper} {i:Nat} {l e:Ev} {h:HL} {n:Nat},N9 E s p T (uf a t) i l e h n k=.ok r->
 ∃f,xz E s p a t i ⟨l,e,h,n⟩=.ok f/\f.e=e/\k f.l f.h f.n=.ok r
 |[],i,l,e,h,n,c=>⟨⟨l,e,h,n⟩,rfl,rfl,c⟩
 |o::t,i,l,e,h,n,c=>by
  have step:(Option.rec (motive:=fun _=>R) (opK o.op E (Nat.add T i) (p i) l e h n (nT (N9 E s p T (uf a t)) o.dst i l e k)) (fun q=>GO E s (Nat.add T i) l e h n q.1 q.2 (nT (N9 E s p T (uf a t)) o.dst i l e k)) (ue o.op))=.ok r->
   ∃f,rb (pN i (Q3 E s (p i) ⟨l,e,h,n⟩ o.dst o.op)) (xz E s p a t (Nat.succ i))=.ok f/\f.e=e/\k f.l f.h f.n=.ok r:=fun B=>by
   have fin:∀v u y,Q3 E s (p i) ⟨l,e,h,n⟩ o.dst o.op=.ok (eU ⟨l,e,h,n⟩ o.dst v u y)->nT (N9 E s p T (uf a t)) o.dst i l e k v u y=.ok r->
    ∃f,rb (pN i (Q3 E s (p i) ⟨l,e,h,n⟩ o.dst o.op)) (xz E s p a t (Nat.succ i))=.ok f/\f.e=e/\k f.l f.h f.n=.ok r:=fun v u y hop I=>by
    rw[ug _ _ _ _ _ _ _ _ h _ n]at I;obtain⟨f,z,A,D⟩:=Ef I;refine⟨f,?_,A,D⟩;rw[hop];have:(eU ⟨l,e,h,n⟩ o.dst v u y)=⟨(eU ⟨l,e,h,n⟩ o.dst v u y).l,e,u,y⟩:=by cases o.dst<;>rfl
    rw[this];exact z
   rw[ta]at B;cases hq:mC o.op with
   |none=>
    rw[hq]at B;obtain⟨out,z,A⟩:=Rh o.op E _ _ l e h n _ r B;refine fin out.x _ _ ?_ A;unfold Q3;rw[hq];show rb (pA E (p i) ⟨l,e,h,n⟩ o.op) _=_;rw[z];rfl
   |some q=>
    rw[hq]at B;obtain⟨v,u,y,z,A⟩:=Ri o.dst B;refine fin v u y ?_ A;unfold Q3;rw[hq];exact z
  rw[rH];obtain⟨j,op,F,pos,m,guard⟩:=o;cases C:Mf a ⟨j,op,F,pos,m,guard⟩with
  |none=>
   have c:Option.rec (motive:=fun _=>R) _ _ (Mf a ⟨j,op,F,pos,m,guard⟩)=.ok r:=c;rw[C]at c;rw[yV C];exact step c
  |some g=>
   have c:Option.rec (motive:=fun _=>R) _ _ (Mf a ⟨j,op,F,pos,m,guard⟩)=.ok r:=c;rw[C]at c;cases g with
   |none=>cases c
   |some g=>
    obtain⟨d,w⟩:=g;have c:Option.rec (motive:=fun _=>R) _ _ (lk l d (lk e d none))=.ok r:=c;cases G:lk l d (lk e d none)with
    |none=>rw[G]at c;cases c
    |some v=>
     rw[G]at c;have c:Option.rec (motive:=fun _=>R) _ _ (Va v w)=.ok r:=c;cases H:Va v w with
     |none=>rw[H]at c;cases c
     |some b=>
      rw[H]at c;rw[Ee (h:=h) (n:=n) C G H];cases b with
      |true=>exact step c
      |false=>
       have c:nT (N9 E s p T (uf a t)) j i l e k (.tu []) h n=.ok r:=c;rw[ug _ _ _ _ _ _ _ _ h _ n]at c;obtain⟨f,z,A,D⟩:=Ef c;refine⟨f,?_,A,D⟩;have:(eU ⟨l,e,h,n⟩ j (.tu []) h n)=⟨(eU ⟨l,e,h,n⟩ j (.tu []) h n).l,e,h,n⟩:=by cases j<;>rfl
       show xz E s p a t (Nat.succ i) (eU ⟨l,e,h,n⟩ j (.tu []) h n)=_;rw[this];exact z
end
section
variable[de]
def rdB(c:Call):Bool:=Call.rec (fun f _ _=>Callee.rec (fun _=>false) (fun _ _=>false) (fun b=>match b with|.len=>true|.max=>true|.min=>true|_=>false) f) c
def Qe(a:gI)(op:Op):Bool:=Op.rec (motive:=fun _=>Bool) (fun _=>true) (fun _=>true) (fun _ _ _=>true) (fun _=>false) (fun _ _=>false) (fun _ _=>true) (fun _ _ _=>false) (fun _ _ _ _=>false) (fun _ _=>true) (fun _ _ _=>false) (fun _=>false) (fun _=>false) (fun _=>true) (fun _ _ _ _ _=>true) (fun _ _ _=>true) (fun s d _=>Option.rec false (fun _=>true) (cvT a s d)) (fun _ _=>false) (fun _ _=>false) (fun _ _ _=>true) (fun _ _=>false) (fun _ _=>false) (fun _ _ _=>false) (fun _ _ _ _ _=>true) (fun _ _ _=>true) (fun _ _ _=>true) (fun _ _ _=>true) (fun _ _ _=>true) (fun _ _ _ _=>false) (fun _ _ _ _=>false) (fun _ _ _=>false) (fun _ _ _ _=>false) (fun _ _=>false) (fun _ _=>false) (fun _=>false) (fun _ _ _ _=>false) (fun _ _=>true) rdB (fun _=>false) (fun _=>false) (fun _=>false) (fun _ _=>false) (fun _ _ _=>false) (fun _ _=>false) op
def XR(E:En):Prop:=∀op a h n out,Qe E.tab op=true->E.ext op a h n=some out->out.us=[]
def Rj{j:gI}{o:Operand->Option V}{h:bw}{p:Bool}{out:Out}(l:Qe j op=true)(g:GG op j o h n p=some out):out.us=[]:=by
 cases op with
 |move x=>obtain⟨_,_,g⟩:=bK g;cases g;rfl
 |assign x=>obtain⟨_,_,g⟩:=bK g;cases g;rfl
 |pick c a b=>obtain⟨_,_,g⟩:=bK g;obtain⟨_,_,g⟩:=bK g;cases g;rfl
 |build t z=>obtain⟨_,_,g⟩:=bK g;cases g;rfl
 |load t a=>obtain⟨_,_,g⟩:=bK g;obtain⟨_,_,g⟩:=bK g;cases g;rfl
 |nilCheck x=>obtain⟨_,_,g⟩:=bK g;obtain⟨_,_,g⟩:=bK g;cases g;rfl
 |binOp op t x y u=>obtain⟨_,_,g⟩:=bK g;obtain⟨_,_,g⟩:=bK g;obtain⟨_,_,g⟩:=bK g;cases g;rfl
 |unOp op t x=>obtain⟨_,_,g⟩:=bK g;obtain⟨_,_,g⟩:=bK g;cases g;rfl
 |convert s d x=>
  obtain⟨a,_,g⟩:=bK g;have g:(Option.rec (sC j h n s d a) (fun y=>some (dF n y)) (yo j s d a):Option Out)=some out:=g;cases q:yo j s d a with
  |some y=>rw[q]at g;cases g;rfl
  |none=>
   rw[q]at g;have l:(Option.rec false (fun _=>true) (cvT j s d):Bool)=true:=l;cases hq:cvT j s d with
   |none=>rw[hq]at l;cases l
   |some k=>
    unfold cvT at hq;split at hq
    .next v w=>
     have g:sC j h n s d a=some out:=g;unfold sC at g;rw[v,w]at g;cases g
    .cases hq
 |makeFunc fn a b=>obtain⟨_,_,g⟩:=bK g;obtain⟨_,_,g⟩:=bK g;cases g;rfl
 |slice t x A B mx=>
  cases mx with
  |some _=>cases g
  |none=>obtain⟨_,_,g⟩:=bK g;obtain⟨_,_,g⟩:=bK g;obtain⟨_,_,g⟩:=bK g;obtain⟨_,_,g⟩:=bK g;cases g;rfl
 |fieldAddr s x f=>obtain⟨_,_,g⟩:=bK g;obtain⟨_,_,g⟩:=bK g;cases g;rfl
 |field t x f=>obtain⟨_,_,g⟩:=bK g;obtain⟨_,_,g⟩:=bK g;cases g;rfl
 |indexAddr t x i=>obtain⟨_,_,g⟩:=bK g;obtain⟨_,_,g⟩:=bK g;obtain⟨_,_,g⟩:=bK g;cases g;rfl
 |index t x i=>obtain⟨_,_,g⟩:=bK g;obtain⟨_,_,g⟩:=bK g;obtain⟨_,_,g⟩:=bK g;cases g;rfl
 |extract x i=>obtain⟨_,_,g⟩:=bK g;obtain⟨_,_,g⟩:=bK g;cases g;rfl
 |call c=>
  obtain⟨f,⟨e⟩,⟨m⟩⟩:=c;cases f with
  |value x=>cases l
  |invoke x y=>cases l
  |builtin b=>
   have g:U0 b e m j o h n p=some out:=g;cases b with
   |len=>
    have g:XE e m j o h n p=some out:=g;cases e with
    |nil=>cases g
    |cons x r=>cases r with
     |cons _ _=>cases g
     |nil=>cases m with
      |nil=>cases g
      |cons t r=>cases r with
       |cons _ _=>
        first
        |cases g;done
        |(obtain⟨_,_,g⟩:=bK g;obtain⟨_,_,g⟩:=bK g;cases g;rfl)
       |nil=>obtain⟨_,_,g⟩:=bK g;obtain⟨_,_,g⟩:=bK g;cases g;rfl
   |max=>obtain⟨_,_,g⟩:=bK g;obtain⟨_,_,g⟩:=bK g;cases g;rfl
   |min=>obtain⟨_,_,g⟩:=bK g;obtain⟨_,_,g⟩:=bK g;cases g;rfl
   |_=>cases l
 |_=>cases l
def GP(e:XR E){c:Bool}{out:Out}(d:Qe E.tab op=true)(a:pA E c s op=.ok out):out.us=[]:=by
 unfold pA at a;cases hq:GG op E.tab (vC E.G s) (dx s.h) s.n c with
 |some o=>rw[hq]at a;cases a;exact Rj d hq
 |none=>
  rw[hq]at a;cases b:E.ext op (vC E.G s) (dx s.h) s.n with
  |some o=>simp only[b]at a;cases a;exact e _ _ _ _ _ d b
  |none=>simp only[b]at a;cases a
def Rk(a b:Nat):Bool:=Nat.beq (Nat.land a b) a
def Mg{b:Nat}(h:Rk a b=true)(d:a.testBit k=true):b.testBit k=true:=by
 have e:a&&&b=a:=Nat.eq_of_beq_eq_true h;have c:(a&&&b).testBit k=true:=by rw[e];exact d
 rw[adI,ax]at c;exact c.2
def Rl{α:Type}(l:List α):Bool:=List.rec true (fun _ _ _=>false) l
def YC(a:gI)(op:Op):Bool:=Bool.rec false (Rl (fE op)) (Qe a op)
def GQ(a:gI)(b:List Nat)(l:List Oper):Nat->Nat->Nat->Bool:=List.rec (fun _ _ _=>true) (fun o _ ih i W A=>
 Bool.rec (Bool.rec (Bool.rec false (ih (Nat.succ i) (Nat.lor W (Nat.shiftLeft 1 i)) (Nat.lor A (Nat.shiftLeft 1 i))) (Rk A (GJ b i))) (Bool.rec false (ih (Nat.succ i) W (Nat.lor A (Nat.shiftLeft 1 i))) (Rk W (GJ b i))) (Qe a o.op)) (ih (Nat.succ i) W A) (YC a o.op)) l
def Vb{m:Nat}(h:m.testBit k=true):Yu m k=true:=by
 have a:(m>>>k)&&&1=1:=by
  rw[Jj,cI]at h;rw[adf,Up];exact h
 show Nat.beq ((m>>>k)&&&1) 1=true;rw[a];rfl
def Mh{a:List Nat}{x y:Ft}(h:(GJ a y.i).testBit x.i=true):Q9 a x y=true:=by
 unfold Q9;cases sE x y with
 |true=>rfl
 |false=>exact Vb h
def Rm{b:List Nat}{x y:It}(c:x.t.us=[])(d:y.t.us=[]):Q9 b (ff x) (ff y)=true:=by
 have e:(ff x).u=0:=by unfold ff;rw[c];rfl
 have f:(ff y).u=0:=by unfold ff;rw[d];rfl
 have:sE (ff x) (ff y)=true:=by
  unfold sE;rw[e,f];have g:Nat.land 0 (ff y).a=0:=p8 _;have h:Nat.land 0 (ff x).a=0:=p8 _;rw[g,h];rfl
 unfold Q9;rw[this]
def vP{f:Ft}:∀{r:List It},f∈kq r->∃x∈r,f=ff x
 |[],h=>by cases h
 |q::r,h=>by
  have h:f∈qA (ff q) (kq r):=h;unfold qA at h;cases d:Qb (ff q).a with
  |true=>
   rw[d]at h;obtain⟨x,b,c⟩:=vP h;exact⟨x,List.mem_cons_of_mem _ b,c⟩
  |false=>
   rw[d]at h;rcases aw.1 h with h|h
   .exact⟨q,List.mem_cons_self,h⟩
   .obtain⟨x,b,c⟩:=vP h;exact⟨x,List.mem_cons_of_mem _ b,c⟩
def Mi{f:Ft->Bool}:∀{l:List Ft},(∀x∈l,f x=true)->Ra f l=true
 |[],_=>rfl
 |y::l,h=>by
  show Bool.rec false (Ra f l) (f y)=true;rw[h y List.mem_cons_self];exact Mi fun x a=>h x (List.mem_cons_of_mem _ a)
def J4{b:List Nat}:∀{l:List It},(l.Pairwise fun y x=>Q9 b (ff x) (ff y)=true)->Mc b (kq l)=true
 |[],_=>rfl
 |y::r,h=>by
  have h:=List.pairwise_cons.1 h;show Mc b (qA (ff y) (kq r))=true;unfold qA;cases e:Qb (ff y).a with
  |true=>exact J4 h.2
  |false=>
   show Bool.rec false (Mc b (kq r)) (Ra (fun x=>Q9 b x (ff y)) (kq r))=true;rw[Mi fun f c=>by obtain⟨x,d,rfl⟩:=vP c;exact h.1 x d];exact J4 h.2
def GR{e:List Nat}{x y:It}(h:(ff x).a=0\/(ff y).a=0):Q9 e (ff x) (ff y)=true:=by
 have zero:∀{p:It},(ff p).a=0->(ff p).u=0:=fun{p} h=>by
  apply abl;intro i;have f:(ff p).a.testBit i=false:=by rw[h];simp
  have d:(sD p.t.us||| D4 p.t.rd).testBit i=false:=f;rw[jk,oE]at d;rw[adt];exact d.1
 have:sE (ff x) (ff y)=true:=by
  unfold sE;rcases h with h|h
  .rw[zero h,h];have b:Nat.land 0 (ff y).a=0:=p8 _;have c:Nat.land (ff y).u 0=0:=Jk _;rw[b,c];rfl
  .rw[zero h,h];have b:Nat.land (ff x).u 0=0:=Jk _;have c:Nat.land 0 (ff x).a=0:=p8 _;rw[b,c];rfl
 unfold Q9;rw[this]
structure Bk(tab:gI)(bs:List Nat)(i W A:Nat)(acc:List It):Prop where
 pw:acc.Pairwise fun y x=>Q9 bs (ff x) (ff y)=true
 rd:∀x∈acc,W.testBit x.i=true\/x.t.us=[]
 al:∀x∈acc,A.testBit x.i=true\/(ff x).a=0
def J5{A:Nat}(h:A.testBit k=true):(Nat.lor A (Nat.shiftLeft 1 i)).testBit k=true:=by
 show(A||| 1<<<i).testBit k=true;rw[jk,h,Bool.true_or]
def J6(A i:Nat):(Nat.lor A (Nat.shiftLeft 1 i)).testBit i=true:=by
 show(A||| 1<<<i).testBit i=true;rw[jk,ads,abk,Nat.testBit_two_pow_self,Bool.or_true]
def Bk.step{j:gI}{E:List Nat}{W A:Nat}{J:List It}(D:Bk j E i W A J){l:List Oper}(H:GQ j E (o::l) i W A=true){t:Tr}(L:Qe j o.op=true->t.us=[])(R:YC j o.op=true->t.rd=[]):
 ∃O P,GQ j E l (Nat.succ i) O P=true/\Bk j E (Nat.succ i) O P (⟨i,o,t⟩::J):=by
 have H:Bool.rec (Bool.rec (Bool.rec false (GQ j E l (Nat.succ i) (Nat.lor W (Nat.shiftLeft 1 i)) (Nat.lor A (Nat.shiftLeft 1 i))) (Rk A (GJ E i))) (Bool.rec false (GQ j E l (Nat.succ i) W (Nat.lor A (Nat.shiftLeft 1 i))) (Rk W (GJ E i))) (Qe j o.op)) (GQ j E l (Nat.succ i) W A) (YC j o.op)=true:=H;cases C:YC j o.op with
 |true=>
  rw[C]at H;have I:Qe j o.op=true:=by
   unfold YC at C;cases I:Qe j o.op with
   |true=>rfl
   |false=>rw[I]at C;cases C
  have Q:(ff ⟨i,o,t⟩).a=0:=by
   unfold ff;show Nat.lor (sD t.us) (D4 t.rd)=0;rw[L I,R C];rfl
  refine⟨W,A,H,List.pairwise_cons.2 ⟨fun x B=>GR (.inr Q),D.pw⟩,fun x B=>?_,fun x B=>?_⟩
  .rcases aw.1 B with rfl|B
   .exact .inr (L I)
   .exact D.rd x B
  .rcases aw.1 B with rfl|B
   .exact .inr Q
   .exact D.al x B
 |false=>
  rw[C]at H;cases I:Qe j o.op with
  |true=>
   rw[I]at H;obtain⟨M,N⟩:=ic H;refine⟨W,_,N,List.pairwise_cons.2 ⟨fun x B=>?_,D.pw⟩,fun x B=>?_,fun x B=>?_⟩
   .rcases D.rd x B with h|h
    .exact Mh (Mg M h)
    .exact Rm h (L I)
   .rcases aw.1 B with rfl|B
    .exact .inr (L I)
    .exact D.rd x B
   .rcases aw.1 B with rfl|B
    .exact .inl (J6 _ _)
    .exact(D.al x B).imp J5 id
  |false=>
   rw[I]at H;obtain⟨M,N⟩:=ic H;refine⟨_,_,N,List.pairwise_cons.2 ⟨fun x B=>?_,D.pw⟩,fun x B=>?_,fun x B=>?_⟩
   .rcases D.al x B with h|h
    .exact Mh (Mg M h)
    .exact GR (.inl h)
   .rcases aw.1 B with rfl|B
    .exact .inl (J6 _ _)
    .exact(D.rd x B).imp J5 id
   .rcases aw.1 B with rfl|B
    .exact .inl (J6 _ _)
    .exact(D.al x B).imp J5 id
end
section
variable[de]
def GS(e:Ev):Nat->V->(Ev->R)->R:=Ev.rec (fun k x c=>c (.c k x .e)) (fun j v r ih k x c=>Bool.rec (ih k x fun r=>c (.c j v r)) (c (.c k x r)) (Nat.beq j k)) e
def GU:∀(e:Ev) (k:Nat) (x:V) (c:Ev->R),GS e k x c=c (ud e k x)
 |.e,k,x,c=>rfl
 |.c j v r,k,x,c=>by
  have a:GS (.c j v r) k x c=Bool.rec (GS r k x fun r=>c (.c j v r)) (c (.c k x r)) (Nat.beq j k):=rfl;have b:ud (.c j v r) k x=Bool.rec (.c j v (ud r k x)) (.c k x r) (Nat.beq j k):=rfl;rw[a,b];cases Nat.beq j k with
  |true=>rfl
  |false=>exact GU r k x _
def vQ(l:Ev)(a:List Nat)(e:Ev):(Ev->R)->R:=List.rec (fun c=>c e) (fun j _ ih c=>ih fun e=>Option.rec (c e) (fun x=>GS e j x c) (lk l j none)) a
def rJ(l e:Ev):∀(a:List Nat) (c:Ev->R),vQ l a e c=c (jJ l a e)
 |[],c=>rfl
 |j::a,c=>by
  have b:vQ l (j::a) e c=vQ l a e fun e=>Option.rec (c e) (fun x=>GS e j x c) (lk l j none):=rfl;have d:jJ l (j::a) e=Option.rec (jJ l a e) (fun x=>ud (jJ l a e) j x) (lk l j none):=rfl;rw[b,rJ l e a,d];cases lk l j none with
  |none=>rfl
  |some x=>exact GU _ _ _ _
def YD(E:En)(d:CL)(t:Nat)(l e:Ev)(h:HL)(n:Nat)(x:Operand)(a:Array Operand)(k:Tr->V->HL->Nat->R):R:=evK E.G l e x t fun v=>
 Option.rec (.no [t,46]) (fun q=>Option.rec (.no [t,47]) (fun f=>Rs.rec (fun g=>Cr.rec (fun x i j b c=>vN b fun b=>k ⟨true,x,i,n,c,j⟩ x b c) g) (fun z=>.no (t::z)) (py E d h n q.1 (ig q.2.1 (ig f q.2.2)))) (sj (vC E.G ⟨l,e,[],0⟩) a.toList)) (xX v)
def Ro(E:En)(t:Nat)(b:Bool)(l e:Ev)(h:HL)(n:Nat)(op:Op)(k:Tr->V->HL->Nat->R):R:=
 Rs.rec (fun out=>Out.rec (fun x a m=>BY 74 (Nat.ble m (Nat.add n 2)) (k ⟨true,x,a,n,Nat.add n 2,ig (Yw E.G ⟨l,e,h,n⟩ op) (a.map (·.1))⟩ x (GC n a h) (Nat.add n 2))) out) (fun z=>.no (t::z)) (pA E b ⟨l,e,h,n⟩ op)
def Rp(E:En)(a:CL)(t:Nat)(b:Bool)(l e:Ev)(h:HL)(n:Nat)(op:Op)(k:Tr->V->HL->Nat->R):R:=Option.rec (Ro E t b l e h n op k) (fun q=>YD E a t l e h n q.1 q.2 k) (ue op)
def Vc{i:CL}{j:Bool}{k:Tr->V->HL->Nat->R}(d:Option Tmp)(a:Rp E i t j l e h n op k=.ok r):
 ∃tr x b c,Qc E i j ⟨l,e,h,n⟩ d op=.ok (tr,eU ⟨l,e,h,n⟩ d x b c)/\k tr x b c=.ok r:=by
 unfold Rp at a;rw[ta]at a;unfold Qc;cases hq:mC op with
 |none=>
  rw[hq]at a;have a:Ro E t j l e h n op k=.ok r:=a;unfold Ro at a;show∃tr x b c,Rb E j ⟨l,e,h,n⟩ d op=_/\_;unfold Rb;cases p:pA E j ⟨l,e,h,n⟩ op with
  |no z=>rw[p]at a;cases a
  |ok out=>
   rw[p]at a;obtain⟨x,s,m⟩:=out;obtain⟨y,a⟩:=kQ a;refine⟨_,x,_,_,?_,a⟩;show BY 74 (Nat.ble m (Nat.add n 2)) _=_;rw[y];rfl
 |some q=>
  rw[hq]at a;obtain⟨v,A,a⟩:=J3 a h n;rw[tc]at a;show∃tr x b c,GK E i ⟨l,e,h,n⟩ d q.1 q.2=_/\_;unfold GK;rw[A];cases o:ko v with
  |none=>simp only[o]at a;cases a
  |some f=>
   simp only[o]at a;rw[<-yT E.G l e h n]at a;cases u:sj (vC E.G ⟨l,e,h,n⟩) q.2.toList with
   |none=>simp only[u]at a;cases a
   |some w=>
    simp only[u]at a;cases g:py E i h n f.1 (ig f.2.1 (ig w f.2.2))with
    |no z=>simp only[g]at a;cases a
    |ok B=>
     simp only[g]at a;obtain⟨x,s,C,b,c⟩:=B;have a:vN b (fun b=>k ⟨true,x,s,n,c,C⟩ x b c)=.ok r:=a;rw[jR]at a;refine⟨_,x,b,c,?_,a⟩;show ro 71 (ko v) _=_;rw[o];show rb (py E i h n f.1 (ig f.2.1 (ig w f.2.2))) _=_;rw[g];rfl
def B6(ih:Nat->List It->Ev->Ev->HL->Nat->(Ev->HL->Nat->R)->R)(o:Oper)(b:Option Tmp)(i:Nat)(a:List It)(l e:Ev)(k:Ev->HL->Nat->R)(t:Tr)(v:V)(h:HL)(n:Nat):R:=Option.rec (ih (Nat.succ i) (⟨i,o,t⟩::a) l e h n k) (fun d=>ih (Nat.succ i) (⟨i,o,t⟩::a) (.c d v l) e h n k) b
def GW(ih:Nat->List It->Ev->Ev->HL->Nat->(Ev->HL->Nat->R)->R)(o:Oper)(a:Option Tmp)(i:Nat)(b:List It)(l e:Ev)(k:Ev->HL->Nat->R)(t:Tr)(v:V)(h c:HL)(n d:Nat):B6 ih o a i b l e k t v h n=ih (Nat.succ i) (⟨i,o,t⟩::b) (eU ⟨l,e,c,d⟩ a v h n).l e h n k:=by
 cases a<;>rfl
def Mj(E:En)(d:CL)(f:Nat->Bool)(T:Nat)(c:Array Oper)(l:List Po):Nat->List It->Ev->Ev->HL->Nat->(Ev->HL->Nat->R)->R:=
 List.rec (fun _ a l e h n k=>BY 60 (Mc (pK c.toList []) (kq a)) (k l h n)) (fun p _ ih i a l e h n k=>Po.rec (fun o g=>
  Option.rec (Rp E d (Nat.add T i) (f i) l e h n o.op (B6 ih o o.dst i a l e k))
   (fun g=>Option.rec (.no [T,i,48]) (fun g=>Option.rec (.no [T,i,49]) (fun v=>Option.rec (.no [T,i,50]) (fun b=>Bool.rec (B6 ih o o.dst i a l e k ⟨false,.tu [],[],n,n,[]⟩ (.tu []) h n) (Rp E d (Nat.add T i) (f i) l e h n o.op (B6 ih o o.dst i a l e k)) b) (Va v g.2)) (lk l g.1 (lk e g.1 none))) g) g) p) l
def yW{E:En}{m:CL}{q:Nat->Bool}{T:Nat}{a:Array Oper}{k:Ev->HL->Nat->R}{r:V×HL×Nat}:∀{s:List Oper} {i:Nat} {f:List It} {l e:Ev} {h:HL} {n:Nat},Mj E m q T a (uf a.toList s) i f l e h n k=.ok r->
 ∃j,qB E m q a s i f ⟨l,e,h,n⟩=.ok j/\j.e=e/\k j.l j.h j.n=.ok r
 |[],i,f,l,e,h,n,c=>by
  have c:BY 60 (Mc (pK a.toList []) (kq f)) (k l h n)=.ok r:=c;obtain⟨t,c⟩:=kQ c;refine⟨⟨l,e,h,n⟩,?_,rfl,c⟩;show BY 60 (Mc (pK a.toList []) (kq f)) _=_;rw[t];rfl
 |o::s,i,f,l,e,h,n,c=>by
  have step:Rp E m (Nat.add T i) (q i) l e h n o.op (B6 (Mj E m q T a (uf a.toList s)) o o.dst i f l e k)=.ok r->
   ∃j,(rb (pN i (Qc E m (q i) ⟨l,e,h,n⟩ o.dst o.op)) fun p=>qB E m q a s (Nat.succ i) (⟨i,o,p.1⟩::f) p.2)=.ok j/\j.e=e/\k j.l j.h j.n=.ok r:=fun D=>by
   obtain⟨tr,x,u,y,B,z⟩:=Vc o.dst D;rw[GW _ _ _ _ _ _ _ _ _ _ _ h _ n]at z;obtain⟨j,F,G,H⟩:=yW z;refine⟨j,?_,G,H⟩;rw[B];have:(eU ⟨l,e,h,n⟩ o.dst x u y)=⟨(eU ⟨l,e,h,n⟩ o.dst x u y).l,e,u,y⟩:=by cases o.dst<;>rfl
   show qB E m q a s (Nat.succ i) (⟨i,o,tr⟩::f) (eU ⟨l,e,h,n⟩ o.dst x u y)=_;rw[this];exact F
  rw[nS];cases A:Mf a.toList o with
  |none=>
   have c:Option.rec (motive:=fun _=>R) _ _ (Mf a.toList o)=.ok r:=c;rw[A]at c;rw[yV A];exact step c
  |some g=>
   have c:Option.rec (motive:=fun _=>R) _ _ (Mf a.toList o)=.ok r:=c;rw[A]at c;cases g with
   |none=>cases c
   |some g=>
    obtain⟨d,w⟩:=g;have c:Option.rec (motive:=fun _=>R) _ _ (lk l d (lk e d none))=.ok r:=c;cases C:lk l d (lk e d none)with
    |none=>rw[C]at c;cases c
    |some v=>
     rw[C]at c;have c:Option.rec (motive:=fun _=>R) _ _ (Va v w)=.ok r:=c;cases t:Va v w with
     |none=>rw[t]at c;cases c
     |some b=>
      rw[t]at c;rw[Ee (h:=h) (n:=n) A C t];cases b with
      |true=>exact step c
      |false=>
       have c:B6 (Mj E m q T a (uf a.toList s)) o o.dst i f l e k ⟨false,.tu [],[],n,n,[]⟩ (.tu []) h n=.ok r:=c;rw[GW _ _ _ _ _ _ _ _ _ _ _ h _ n]at c;obtain⟨j,B,z,I⟩:=yW c;refine⟨j,?_,z,I⟩;have:(eU ⟨l,e,h,n⟩ o.dst (.tu []) h n)=⟨(eU ⟨l,e,h,n⟩ o.dst (.tu []) h n).l,e,h,n⟩:=by cases o.dst<;>rfl
       show qB E m q a s (Nat.succ i) (⟨i,o,⟨false,.tu [],[],n,n,[]⟩⟩::f) (eU ⟨l,e,h,n⟩ o.dst (.tu []) h n)=_;rw[this];exact B
def aax(n:Nat)(a:Ko):Ko:=fun v h m=>Bool.rec (.no [74]) (a v h (Nat.add n 2)) (Nat.ble m (Nat.add n 2))
def doQ(E:En)(b:CL)(t:Nat)(c:Bool)(op:Op)(l e:Ev)(h:HL)(n:Nat)(a:Ko):R:=Option.rec (opK op E t c l e h n (aax n a)) (fun q=>GO E b t l e h n q.1 q.2 a) (ue op)
def Ob{f:CL}{x:Operand}{a:Array Operand}{k:Ko}(d:Option Tmp)(b:GO E f t l e h n x a k=.ok r):
 ∃tr v j m,GK E f ⟨l,e,h,n⟩ d x a=.ok (tr,eU ⟨l,e,h,n⟩ d v j m)/\k v j m=.ok r:=by
 obtain⟨v,p,b⟩:=J3 b h n;rw[tc]at b;cases hq:ko v with
 |none=>simp only[hq]at b;cases b
 |some q=>
  simp only[hq]at b;rw[<-yT E.G l e h n]at b;cases g:sj (vC E.G ⟨l,e,h,n⟩) a.toList with
  |none=>simp only[g]at b;cases b
  |some o=>
   simp only[g]at b;cases i:py E f h n q.1 (ig q.2.1 (ig o q.2.2))with
   |no z=>simp only[i]at b;cases b
   |ok c=>
    simp only[i]at b;refine⟨⟨true,c.x,c.us,n,c.n,c.rd⟩,c.x,c.h,c.n,?_,(rI _ _).symm.trans ((jR c.h fun h=>vO c.n (k c.x h)).symm.trans b)⟩;unfold GK;rw[p];show ro 71 (ko v) _=_;rw[hq];show ro 72 (sj (vC E.G ⟨l,e,h,n⟩) a.toList) _=_;rw[g];show rb (py E f h n q.1 (ig q.2.1 (ig o q.2.2))) _=_;rw[i];rfl
def YE{w:CL}(y:XR E){o:Bool}{p:Ko}(d:Option Tmp)(i:doQ E w t o op l e h n p=.ok r):
 ∃tr v k m,Qc E w o ⟨l,e,h,n⟩ d op=.ok (tr,eU ⟨l,e,h,n⟩ d v k m)/\(Qe E.tab op=true->tr.us=[])/\(YC E.tab op=true->tr.rd=[])/\p v k m=.ok r:=by
 unfold doQ at i;rw[ta]at i;unfold Qc;cases hq:mC op with
 |none=>
  rw[hq]at i;obtain⟨out,j,f⟩:=Rh op E _ _ l e h n _ r i;have f:Bool.rec (.no [74]) (p out.x (GC n out.us h) (Nat.add n 2)) (Nat.ble (Bj n out.n) (Nat.add n 2))=(.ok r:R):=f;cases s:Nat.ble (Bj n out.n) (Nat.add n 2)with
  |false=>rw[s]at f;cases f
  |true=>
   rw[s]at f;have u:Nat.ble out.n (Nat.add n 2)=true:=by
    have z:=Nat.le_of_ble_eq_true s;rw[xU]at z;exact xG (ba (Nat.le_max_right _ _) z)
   refine⟨⟨true,out.x,out.us,n,Nat.add n 2,ig (Yw E.G ⟨l,e,h,n⟩ op) (out.us.map (·.1))⟩,out.x,_,_,?_,fun c=>?_,fun c=>?_,f⟩
   .show Rb E o ⟨l,e,h,n⟩ d op=_;unfold Rb;rw[j];show BY 74 (Nat.ble out.n (Nat.add n 2)) _=_;rw[u];rfl
   .exact GP y c j
   .unfold YC at c;cases g:Qe E.tab op with
    |false=>rw[g]at c;cases c
    |true=>
     rw[g]at c;have A:fE op=[]:=by
      cases B:fE op with
      |nil=>rfl
      |cons a b=>rw[B]at c;cases c
     show ig (Yw E.G ⟨l,e,h,n⟩ op) (out.us.map (·.1))=[];rw[GP y g j];unfold Yw;rw[A];rfl
 |some q=>
  rw[hq]at i;obtain⟨tr,v,k,m,j,f⟩:=Ob d i;obtain⟨C,rfl⟩:=vK hq;exact⟨tr,v,k,m,j,(fun c=>by cases c),(fun c=>by cases c),f⟩
def Vd(E:En)(b:CL)(c:Nat->Bool)(T:Nat)(l:List Po):Nat->Ev->Ev->HL->Nat->(Ev->HL->Nat->R)->R:=
 List.rec (fun _ l e h n k=>k l h n) (fun p _ ih i l e h n k=>Po.rec (fun o g=>Oper.rec (fun a op _ _ _ _=>
  Option.rec (doQ E b (Nat.add T i) (c i) op l e h n (nT ih a i l e k)) (aaw T i l e (nT ih a i l e k (.tu []) h n) (doQ E b (Nat.add T i) (c i) op l e h n (nT ih a i l e k))) g) o) p) l
def Eg{E:En}{s:CL}(H:XR E){u:Nat->Bool}{T:Nat}{a:Array Oper}{k:Ev->HL->Nat->R}{r:V×HL×Nat}:∀{y:List Oper} {i W A:Nat} {f:List It} {l e:Ev} {h:HL} {n:Nat},GQ E.tab (pK a.toList []) y i W A=true->Bk E.tab (pK a.toList []) i W A f->
 Vd E s u T (uf a.toList y) i l e h n k=.ok r->∃m,qB E s u a y i f ⟨l,e,h,n⟩=.ok m/\m.e=e/\k m.l m.h m.n=.ok r
 |[],i,W,A,f,l,e,h,n,I,B,c=>by
  refine⟨⟨l,e,h,n⟩,?_,rfl,c⟩;show BY 60 (Mc (pK a.toList []) (kq f)) _=_;rw[J4 B.pw];rfl
 |o::y,i,W,A,f,l,e,h,n,I,B,c=>by
  have step:doQ E s (Nat.add T i) (u i) o.op l e h n (nT (Vd E s u T (uf a.toList y)) o.dst i l e k)=.ok r->
   ∃m,(rb (pN i (Qc E s (u i) ⟨l,e,h,n⟩ o.dst o.op)) fun p=>qB E s u a y (Nat.succ i) (⟨i,o,p.1⟩::f) p.2)=.ok m/\m.e=e/\k m.l m.h m.n=.ok r:=fun hq=>by
   obtain⟨tr,x,C,D,J,K,P,F⟩:=YE H o.dst hq;rw[ug _ _ _ _ _ _ _ _ h _ n]at F;obtain⟨Q,S,L,M⟩:=B.step I K P;obtain⟨m,U,X,Y⟩:=Eg H L M F;refine⟨m,?_,X,Y⟩;rw[J];have:(eU ⟨l,e,h,n⟩ o.dst x C D)=⟨(eU ⟨l,e,h,n⟩ o.dst x C D).l,e,C,D⟩:=by cases o.dst<;>rfl
   show qB E s u a y (Nat.succ i) (⟨i,o,tr⟩::f) (eU ⟨l,e,h,n⟩ o.dst x C D)=_;rw[this];exact U
  rw[nS];obtain⟨j,op,N,pos,q,guard⟩:=o;cases G:Mf a.toList ⟨j,op,N,pos,q,guard⟩with
  |none=>
   have c:Option.rec (motive:=fun _=>R) _ _ (Mf a.toList ⟨j,op,N,pos,q,guard⟩)=.ok r:=c;rw[G]at c;rw[yV G];exact step c
  |some g=>
   have c:Option.rec (motive:=fun _=>R) _ _ (Mf a.toList ⟨j,op,N,pos,q,guard⟩)=.ok r:=c;rw[G]at c;cases g with
   |none=>cases c
   |some g=>
    obtain⟨d,w⟩:=g;have c:Option.rec (motive:=fun _=>R) _ _ (lk l d (lk e d none))=.ok r:=c;cases O:lk l d (lk e d none)with
    |none=>rw[O]at c;cases c
    |some v=>
     rw[O]at c;have c:Option.rec (motive:=fun _=>R) _ _ (Va v w)=.ok r:=c;cases z:Va v w with
     |none=>rw[z]at c;cases c
     |some b=>
      rw[z]at c;rw[Ee (h:=h) (n:=n) G O z];cases b with
      |true=>exact step c
      |false=>
       have c:nT (Vd E s u T (uf a.toList y)) j i l e k (.tu []) h n=.ok r:=c;rw[ug _ _ _ _ _ _ _ _ h _ n]at c;obtain⟨Q,S,L,M⟩:=B.step (t:=⟨false,.tu [],[],n,n,[]⟩) I (fun _=>rfl) (fun _=>rfl);obtain⟨m,J,K,F⟩:=Eg H L M c;refine⟨m,?_,K,F⟩;have:(eU ⟨l,e,h,n⟩ j (.tu []) h n)=⟨(eU ⟨l,e,h,n⟩ j (.tu []) h n).l,e,h,n⟩:=by cases j<;>rfl
       show qB E s u a y (Nat.succ i) (⟨i,_,⟨false,.tu [],[],n,n,[]⟩⟩::f) (eU ⟨l,e,h,n⟩ j (.tu []) h n)=_;rw[this];exact J
abbrev Kx:=Exit->Ev->HL->Nat->R
def YF(E:En)(b:CL)(c:Nat->Nat->Bool)(d:List Nat)(id:Nat)(a:Array Oper)(e:Ev)(h:HL)(n:Nat)(k:Kx):R:=
 Bool.rec (Mj E b (c id) (Nat.mul id 1000) a (uf a.toList a.toList) 0 [] .e e h n fun l h n=>vQ l (qC d a.toList) e fun e=>k .normal e h n)
  (Vd E b (c id) (Nat.mul id 1000) (uf a.toList a.toList) 0 .e e h n fun l h n=>vQ l (qC d a.toList) e fun e=>vO n (k .normal e h))
  (GQ E.tab (pK a.toList []) a.toList 0 0 0)
def YG(E:En)(b:CL)(c:Nat->Nat->Bool)(f:List Nat)(id:Nat)(a:Array Oper)(d:Bool)(e:Ev)(h:HL)(n:Nat)(k:Kx):R:=
 Bool.rec (N9 E b (c id) (Nat.mul id 1000) (uf a.toList a.toList) 0 .e e h n fun l h n=>vQ l (qC f a.toList) e fun e=>k .normal e h n)
  (YF E b c f id a e h n k) d
def Ve{g:CL}(q:XR E){i:Nat->Nat->Bool}{j:List Nat}{id:Nat}{a:Array Oper}{k:Kx}(f:YG E g i j id a d e h n k=.ok r):
 ∃b,Rd E g i j id a d ⟨.e,e,h,n⟩=.ok (.normal,b)/\b.l=.e/\k .normal b.e b.h b.n=.ok r:=by
 unfold YG at f;unfold Rd;cases d with
 |false=>
  obtain⟨b,m,p,c⟩:=Ef f;rw[rJ]at c;refine⟨⟨.e,jJ b.l (qC j a.toList) e,b.h,b.n⟩,?_,rfl,c⟩;show rb (pN (Nat.add 10000 id) (xz E g (i id) a.toList a.toList 0 ⟨.e,e,h,n⟩)) _=_;rw[m];rfl
 |true=>
  have f:YF E g i j id a e h n k=.ok r:=f;unfold YF at f;have fin:∀b,qB E g (i id) a a.toList 0 [] ⟨.e,e,h,n⟩=.ok b->b.e=e->k .normal (jJ b.l (qC j a.toList) e) b.h b.n=.ok r->
   ∃b,Rd E g i j id a true ⟨.e,e,h,n⟩=.ok (.normal,b)/\b.l=.e/\k .normal b.e b.h b.n=.ok r:=fun b m p c=>by
   refine⟨⟨.e,jJ b.l (qC j a.toList) e,b.h,b.n⟩,?_,rfl,c⟩;show rb (pN (Nat.add 10000 id) (qB E g (i id) a a.toList 0 [] ⟨.e,e,h,n⟩)) _=_;rw[m];rfl
  cases o:GQ E.tab (pK a.toList []) a.toList 0 0 0 with
  |true=>
   rw[o]at f;obtain⟨b,m,p,c⟩:=Eg q o ⟨List.Pairwise.nil,fun x h=>absurd h List.not_mem_nil,fun x h=>absurd h List.not_mem_nil⟩ f;rw[rJ,rI]at c;exact fin b m p c
  |false=>
   rw[o]at f;obtain⟨b,m,p,c⟩:=yW f;rw[rJ]at c;exact fin b m p c
def gcK(a:Nat)(e:Ev)(h:HL)(n:Nat)(c:Ev->HL->Nat->R):R:=Bool.rec (c e h n) (GT.rec (fun _ e h n=>vN h fun h=>c e h n) (xW a ⟨.e,e,h,n⟩)) (Nat.ble (Nat.add a 48) n)
def Rq{c:Ev->HL->Nat->R}(b:gcK a e h n c=.ok r):(xW a ⟨.e,e,h,n⟩).l=.e/\c (xW a ⟨.e,e,h,n⟩).e (xW a ⟨.e,e,h,n⟩).h (xW a ⟨.e,e,h,n⟩).n=.ok r:=by
 have f:(xW a ⟨.e,e,h,n⟩).l=.e:=by
  rcases D7 (n0:=a) (s:=⟨.e,e,h,n⟩) rfl with h1|h1
  .rw[h1]
  .exact h1.2.1
 refine⟨f,?_⟩;unfold gcK at b;cases d:Nat.ble (Nat.add a 48) n with
 |false=>
  rw[d]at b;have:xW a ⟨.e,e,h,n⟩=⟨.e,e,h,n⟩:=by
   unfold xW;show(Bool.rec _ _ (Nat.ble (Nat.add a 48) n):GT)=_;rw[d]
  rw[this];exact b
 |true=>
  rw[d]at b;generalize xW a ⟨.e,e,h,n⟩=s at b f;obtain⟨k,g,i,j⟩:=s;have b:vN i (fun h=>c g h j)=.ok r:=b;rw[jR]at b;exact b
def XJ(a:Ev->HL->Nat->Kx->R)(b:Nat)(N:Nat):Ev->HL->Nat->Kx->R:=Nat.rec (fun _ _ _ _=>.no [61]) (fun _ ih e h n k=>a e h n fun x e h n=>
 Exit.rec (gcK b e h n fun e h n=>ih e h n k) (fun l=>k (.exit l) e h n) (fun l=>k (.goto l) e h n) (k .ret e h n) (fun c=>k (.panic c) e h n) (k .outgrown e h n) x) N
def YH(b:Code->Ev->HL->Nat->Kx->R)(c:Code)(d:Nat)(N:Nat):Exit->Ev->HL->Nat->Kx->R:=Nat.rec (fun _ _ _ _ _=>.no [63]) (fun _ ih x e h n k=>
 Exit.rec (k .normal e h n) (fun l=>k (.exit l) e h n) (fun l=>Option.rec (.no [64]) (fun a=>gcK d e h n fun e h n=>b a e h n fun x e h n=>ih x e h n k) (findLabel c l)) (k .ret e h n) (fun c=>k (.panic c) e h n) (k .outgrown e h n) x) N
def sF(g:Code->Ev->HL->Nat->Kx->R)(E:En)(i:CL)(j:Nat->Nat->Bool)(m:List Nat)(d:Code):Ev->HL->Nat->Kx->R:=Code.rec
 (motive:=fun _=>Ev->HL->Nat->Kx->R)
 (fun e h n k=>k .normal e h n) (fun id o d e h n k=>YG E i j m id o d e h n k)
 (fun _ _ a b e h n k=>a e h n fun x e h n=>Exit.rec (b e h n k) (fun l=>k (.exit l) e h n) (fun l=>k (.goto l) e h n) (k .ret e h n) (fun c=>k (.panic c) e h n) (k .outgrown e h n) x)
 (fun c _ _ a b e h n k=>Option.rec (.no [62]) (fun v=>onB v (fun t=>Bool.rec (b e h n k) (a e h n k) t) (.no [62])) (vC E.G ⟨.e,e,[],0⟩ c))
 (fun id _ a e h n k=>a e h n fun x e h n=>Exit.rec (k .normal e h n) (fun l=>Bool.rec (k (.exit l) e h n) (k .normal e h n) (Nat.beq l id)) (fun l=>k (.goto l) e h n) (k .ret e h n) (fun c=>k (.panic c) e h n) (k .outgrown e h n) x)
 (fun _ a e h n k=>XJ a n E.K e h n k) (fun _ _ _ _ _ _ _ _ _ _=>.no [65]) (fun id e h n k=>k (.exit id) e h n)
 (fun f a e h n k=>a e h n fun x e h p=>YH g f n E.K x e h p k) (fun _ e h n k=>k .normal e h n) (fun l e h n k=>k (.goto l) e h n) (fun e h n k=>k .ret e h n) (fun _ _ _ _ _=>.no [66]) d
def aay(E:En)(b:CL)(c:Nat->Nat->Bool)(d:List Nat)(a:Nat):Code->Ev->HL->Nat->Kx->R:=Nat.rec (fun _ _ _ _ _=>.no [67]) (fun _ ih=>sF ih E b c d) a
def Oc(f:Ev->HL->Nat->Kx->R)(g:GT->Rs (Exit×GT)):Prop:=∀e h n k r,f e h n k=.ok r->∃x a,g ⟨.e,e,h,n⟩=.ok (x,a)/\a.l=.e/\k x a.e a.h a.n=.ok r
def vR(h:s.l=.e):s=⟨.e,s.e,s.h,s.n⟩:=by cases s;cases h;rfl
def yX{k:Kx}{a:R}(b:(Exit.rec a (fun l=>k (.exit l) e h n) (fun l=>k (.goto l) e h n) (k .ret e h n) (fun c=>k (.panic c) e h n) (k .outgrown e h n) x:R)=.ok r):(x=.normal/\a=.ok r)\/(x≠.normal/\k x e h n=.ok r):=by
 cases x with
 |normal=>exact .inl ⟨rfl,b⟩
 |_=>exact .inr ⟨by simp,b⟩
def Mk(h:x≠.normal):J0 (.ok (x,s)) f=.ok (x,s):=by
 cases x with
 |normal=>exact absurd rfl h
 |_=>rfl
def Rr{f:Ev->HL->Nat->Kx->R}{g:GT->Rs (Exit×GT)}(l:Oc f g)(a N:Nat):Oc (XJ f a N) (wZ g a N):=by
 induction N with
 |zero=>intro e h n k r b;cases b
 |succ N ih=>
  intro e h n k r b;obtain⟨x,i,m,j,o⟩:=l e h n _ r b;have p:wZ g a (N+1) ⟨.e,e,h,n⟩=J0 (g ⟨.e,e,h,n⟩) fun s=>wZ g a N (xW a s):=rfl;rw[p,m];rcases yX o with⟨rfl,c⟩|⟨d,c⟩
  .obtain⟨q,t⟩:=Rq c;obtain⟨x,u,d1,d2,d3⟩:=ih _ _ _ _ _ t;refine⟨x,u,?_,d2,d3⟩;show wZ g a N (xW a i)=_;rw[vR j,vR q];exact d1
  .exact⟨x,i,Mk d,j,c⟩
def Vf{j:Code->Ev->HL->Nat->Kx->R}{g:Code->GT->Rs (Exit×GT)}(p:∀d,Oc (j d) (g d))(c:Code)(b:Nat):∀(N:Nat) (x:Exit) (s:GT) (k:Kx) (r:V×HL×Nat),s.l=.e->YH j c b N x s.e s.h s.n k=.ok r->
 ∃y i,D8 g c b N (.ok (x,s))=.ok (y,i)/\i.l=.e/\k y i.e i.h i.n=.ok r:=by
 intro N;induction N with
 |zero=>intro x s k r m f;cases f
 |succ N ih=>
  intro x s k r m f;cases x with
  |goto l=>
   have f:Option.rec (motive:=fun _=>R) (.no [64]) (fun a=>gcK b s.e s.h s.n fun e h n=>j a e h n fun x e h n=>YH j c b N x e h n k) (findLabel c l)=.ok r:=f;have q:D8 g c b (N+1) (.ok (.goto l,s))=ro 64 (findLabel c l) fun a=>D8 g c b N (g a (xW b s)):=rfl;rw[q];cases o:findLabel c l with
   |none=>rw[o]at f;cases f
   |some a=>
    rw[o]at f;obtain⟨t,u⟩:=Rq f;obtain⟨x,v,d1,d2,d3⟩:=p a _ _ _ _ _ u;obtain⟨y,w,z,A,B⟩:=ih x v k r d2 d3;refine⟨y,w,?_,A,B⟩;show D8 g c b N (g a (xW b s))=_;rw[vR m,vR t,d1];exact z
  |_=>exact⟨_,s,rfl,m,f⟩
def lC{E:En}{g:CL}(u:XR E){i:Nat->Nat->Bool}{j:List Nat}{q:Code->Ev->HL->Nat->Kx->R}{o:Code->GT->Rs (Exit×GT)}(w:∀d,Oc (q d) (o d)):∀d:Code,Oc (sF q E g i j d) (na o E g i j d)
 |.skip=>fun e h n k r f=>⟨.normal,⟨.e,e,h,n⟩,rfl,rfl,f⟩
 |.label l=>fun e h n k r f=>⟨.normal,⟨.e,e,h,n⟩,rfl,rfl,f⟩
 |.exit l=>fun e h n k r f=>⟨.exit l,⟨.e,e,h,n⟩,rfl,rfl,f⟩
 |.goto l=>fun e h n k r f=>⟨.goto l,⟨.e,e,h,n⟩,rfl,rfl,f⟩
 |.ret=>fun e h n k r f=>⟨.ret,⟨.e,e,h,n⟩,rfl,rfl,f⟩
 |.refuse _=>fun e h n k r f=>by cases f
 |.rangeFunc _ _ _ _=>fun e h n k r f=>by cases f
 |.region id H d=>fun e h n k r f=>by
  obtain⟨m,z,s,p⟩:=Ve u f;exact⟨.normal,m,z,s,p⟩
 |.seq a b=>fun e h n k r f=>by
  obtain⟨x,m,z,s,p⟩:=lC u w a e h n _ r f;have A:na o E g i j (.seq a b) ⟨.e,e,h,n⟩=J0 (na o E g i j a ⟨.e,e,h,n⟩) (na o E g i j b):=rfl;rw[A,z];rcases yX p with⟨rfl,B⟩|⟨C,B⟩
  .obtain⟨x,D,d1,d2,d3⟩:=lC u w b _ _ _ _ _ B;refine⟨x,D,?_,d2,d3⟩;show na o E g i j b m=_;rw[vR s];exact d1
  .exact⟨x,m,Mk C,s,B⟩
 |.cond c a b=>fun e h n k r f=>by
  have f:Option.rec (motive:=fun _=>R) (.no [62]) (fun v=>onB v (fun t=>Bool.rec (sF q E g i j b e h n k) (sF q E g i j a e h n k) t) (.no [62])) (vC E.G ⟨.e,e,[],0⟩ c)=.ok r:=f;have A:na o E g i j (.cond c a b) ⟨.e,e,h,n⟩=U6 (vC E.G ⟨.e,e,h,n⟩ c) (na o E g i j a) (na o E g i j b) ⟨.e,e,h,n⟩:=rfl;rw[A,yT E.G .e e h n];cases F:vC E.G ⟨.e,e,[],0⟩ c with
  |none=>rw[F]at f;cases f
  |some v=>
   rw[F]at f;rcases N8 v (fun t=>Bool.rec (sF q E g i j b e h n k) (sF q E g i j a e h n k) t) (.no [62])with⟨t,rfl,hb⟩|hb
   .have f:onB (.d (.b t)) (fun t=>Bool.rec (sF q E g i j b e h n k) (sF q E g i j a e h n k) t) (.no [62])=.ok r:=f;rw[hb]at f;cases t with
    |true=>exact lC u w a e h n k r f
    |false=>exact lC u w b e h n k r f
   .have f:onB v (fun t=>Bool.rec (sF q E g i j b e h n k) (sF q E g i j a e h n k) t) (.no [62])=.ok r:=f;rw[hb]at f;cases f
 |.block id a=>fun e h n k r f=>by
  obtain⟨x,m,z,s,p⟩:=lC u w a e h n _ r f;have A:na o E g i j (.block id a) ⟨.e,e,h,n⟩=U5 id (na o E g i j a ⟨.e,e,h,n⟩):=rfl;rw[A,z];cases x with
  |exit l=>
   have p:(Bool.rec (k (.exit l) m.e m.h m.n) (k .normal m.e m.h m.n) (Nat.beq l id):R)=.ok r:=p;have hb:U5 id (.ok (.exit l,m))=bif Nat.beq l id then .ok (.normal,m)else .ok (.exit l,m):=rfl;rw[hb];cases hq:Nat.beq l id with
   |true=>rw[hq]at p;exact⟨.normal,m,rfl,s,p⟩
   |false=>rw[hq]at p;exact⟨.exit l,m,rfl,s,p⟩
  |_=>exact⟨_,m,rfl,s,p⟩
 |.loop a=>fun e h n k r f=>Rr (lC u w a) n E.K e h n k r f
 |.scope a=>fun e h n k r f=>by
  obtain⟨x,m,z,s,p⟩:=lC u w a e h n _ r f;obtain⟨y,D,d1,d2,d3⟩:=Vf w a n E.K x m k r s p;refine⟨y,D,?_,d2,d3⟩;show D8 o a n E.K (na o E g i j a ⟨.e,e,h,n⟩)=_;rw[z];exact d1
def Ml{E:En}{b:CL}(c:XR E){f:Nat->Nat->Bool}{g:List Nat}:∀(a:Nat) (d:Code),Oc (aay E b f g a d) (sem E b f g a d)
 |0,d=>fun e h n k r i=>by cases i
 |N+1,d=>lC c (fun d=>Ml c N d) d
def XK(E:En)(a:CL)(f:FuncId)(args:List V)(h:HL)(n:Nat):R:=
 pN (Nat.add 20000 f) (ro 69 (E.Yr f) fun q=>ro 59 q.fn.body fun c=>BY 58 (Nat.ble (qg args) q.fn.ntmps) (aay E a q.mu q.kp E.lvl c (qD q.kp args 0) h n fun x e h n=>Exit.rec (Eb E q.fn ⟨.e,e,h,n⟩) (fun _=>.no [57]) (fun _=>.no [57]) (Eb E q.fn ⟨.e,e,h,n⟩) (fun _=>.no [57]) (.no [57]) x))
def Rt{g:CL}(i:XR E){f:FuncId}{args:List V}(a:XK E g f args h n=.ok r):Yz E g f args h n=.ok r:=by
 have a:=l4 a;obtain⟨q,j,a⟩:=iH a;obtain⟨c,k,a⟩:=iH a;obtain⟨l,a⟩:=kQ a;obtain⟨x,d,m,o,b⟩:=Ml i E.lvl c _ _ _ _ _ a;unfold Yz;rw[j];show pN _ (ro 59 q.fn.body _)=_;rw[k];show pN _ (BY 58 (Nat.ble (qg args) q.fn.ntmps) (rb (sem E g q.mu q.kp E.lvl c ⟨.e,qD q.kp args 0,h,n⟩) _))=_;rw[l,m];rw[<-vR o]at b;cases x with
 |normal=>
  have b:Eb E q.fn d=.ok r:=b;show pN _ (Eb E q.fn d)=_;rw[b];rfl
 |ret=>
  have b:Eb E q.fn d=.ok r:=b;show pN _ (Eb E q.fn d)=_;rw[b];rfl
 |_=>cases b
def runK(E:En)(k:Nat):CL:=Nat.rec (fun _ _ _ _=>.no [56]) (fun _ ih f args h n=>XK E ih f args h n) k
def Mm{P:Program}{E:En}(b:J2 P E)(c:XR E):∀k:Nat,xy P (runK E k)
 |0=>fun f args h n r d e a=>by cases a
 |k+1=>fun f args h n r d e a=>U8 b (Mm b c k) f args h n r d e (Rt c a)
def Mn{P:Program}(c:J2 P E)(d:XR E){f:FuncId}{args:List V}{r y:V}{a:HL}{b:Nat}(e:iS args=some args)(g:runK E k f args [] 0=.ok (r,a,b)){h2:HL}(h:yI a r=some (y,h2)):fW P f/\PC P f args y:=by
 obtain⟨i,j⟩:=Mm c d k f args [] 0 r a b g;exact⟨i,XD j e h⟩
end
end Go.Abs
namespace Go.Abs
def okB(m:Nat)(b:Option Code):Bool:=match b with
 |some c=>tH m c
 |none=>true
def aaz{f:Func}(h:okB f.ntmps f.body=true):∀c,f.body=some c->tH f.ntmps c=true:=fun c a=>by
 rw[a]at h;exact h
