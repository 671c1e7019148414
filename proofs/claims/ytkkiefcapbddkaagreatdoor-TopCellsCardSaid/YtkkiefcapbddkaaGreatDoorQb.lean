/- part of topCells.proved -/
import Derived.Test.YtkkiefcapbddkaaGreatDoorQa
set_option linter.all false
set_option maxRecDepth 1000000
set_option maxHeartbeats 0
noncomputable section
namespace Go.Abs
open Go.RowKit
variable{c:Array Operand}{d:D}{f:FuncId}{g:Gh}{s:List Sb}{a args j:List V}{b i k l m q size sz:Nat}{op:Op}{o:Oper}{ρ:Operand->Value}{out:Out}{P:Program}{t:TypeId}{r x y:V}{v:Value}{w:World}{h:bw}
section
variable[de]
section
variable{P:Program}{g:Gh}{h:bw}{w:World}{tab:gI}
def FV(m:Rel g h w)(hq:g.U q=false)(t:TypeId)(d:List (List V))(e:Array Value)(sz:Nat)(f:Bool)(n:d.length*sz<=e.size)(o:f=false->e.size=d.length*sz)(p:∀r∈d,r.length=sz)(s:∀r∈d,∀x∈r,x.one=true)
 (u:∀(i:Nat) r (j:Nat) x v,d[i]? =some r->r[j]? =some x->e[i*sz+j]? =some v->GV g h w x v):
 Rel {σ:=up g.σ q (some (w.heap.size,sz)),τ:=g.τ,F:=up g.F w 0,U:=up g.U q true} (up h q (some (.row sz d f))) (w.alloc (.cells e t))/\
 Ext g h w {σ:=up g.σ q (some (w.heap.size,sz)),τ:=g.τ,F:=up g.F w 0,U:=up g.U q true} (up h q (some (.row sz d f))) (w.alloc (.cells e t)):=by
 have y:Ext g h w {σ:=up g.σ q (some (w.heap.size,sz)),τ:=g.τ,F:=up g.F w 0,U:=up g.U q true} (up h q (some (.row sz d f))) (w.alloc (.cells e t)):=
  Dj m q (.inl hq) (.cells e t) (some (w.heap.size,sz)) g.τ 0 _ (.inr ⟨hq,sz,rfl⟩) (fun k b z=>.inl z)
   (fun k A B l=>by rw[bI _ _ _ (gA hq A)]at l;exact⟨B,l,.inr ⟨rfl,rfl⟩⟩)
 exact xL m hq _ sz _ (fun _=>by simp) (.row sz _ f w e t (aR _ _ _) (heap_alloc_new w _) (aR _ _ _) p n o s fun i r j x v a b c=>(u i r j x v a b c).ext y)
def JB(i:Rel g h w)(hq:g.U q=false)(sz:Nat):Rel {g with U:=up g.U q true} (up h q (some (.row sz [] true))) w/\Ext g h w {g with U:=up g.U q true} (up h q (some (.row sz [] true))) w:=by
 have s:Ext g h w {g with U:=up g.U q true} (up h q (some (.row sz [] true))) w:={
  n:=fun k f=>tM f,size:=ae _,os:=rfl,tape:=rfl,output:=rfl,stays:=jt.refl _ _,out:=fun _ _ _=>⟨rfl,rfl⟩,own:=fun _ h=>.inl h,sig:=fun _ _=>rfl
  tok:=fun k f n t=>by rw[bI _ _ _ (gA hq f)]at t;exact⟨n,t,.inr ⟨rfl,rfl,fun _ _=>⟨rfl,id⟩⟩⟩}
 have j:=(i.top q hq).2.1;refine⟨i.step s (fun k=>g.U k=false) i.lt i.fresh ?_ ?_ ?_ ?_,s⟩
 .intro k f;have d:up g.U q true k=false:=f;have m:k≠q:=fun e=>by rw[e,aR]at d;cases d
  rw[bI _ _ _ m]at d;exact⟨by rw[bI _ _ _ m];exact(i.top k d).1,(i.top k d).2⟩
 .have p:∀k b,dJ {g with U:=up g.U q true} (up h q (some (.row sz [] true))) k=some b->dJ g h k=some b:=by
   intro k b l;by_cases e:k=q
   .subst e;unfold dJ at l;rw[aR]at l;simp only[j]at l;cases l
   .unfold dJ at l|-;rwa[bI _ _ _ e]at l
  intro k u b a c;exact i.inj k u b (p k b a) (p u b c)
 .intro k f;have d:g.U k=true:=by simpa using f
  exact⟨d,bI _ _ _ (gA hq d),fun _ _ _ _ _=>⟨rfl,rfl⟩⟩
 .intro k o f r;by_cases e:k=q
  .subst e;rw[aR]at r;cases r;exact .nilvec sz j
  .rw[bI _ _ _ e,(i.top k f).1]at r;cases r
def ql(n6:dN P tab)(K:Rel g h w){D:Nat}(g8:g.U D=false){tx e:TypeId}{l:TI}(ht:P.underlying t=some (.slice e))(In:tab e=some l)
 {u:List (List V)}{vx:Value}{p:List Value}(hs:FU P g h w l.size tx vx u p)(ty:TypeId){f:List (List V)}{UV:Bool}{va:Value}
 (hk:h k=some (.row l.size f UV))(a5:GV g h w (.v k 0 m) va)(hm:m<=f.length)(hf:fits (m+u.length) l.bytes):
 ∃v S g',(Builtin.append_ #[t,tx] ty #[va,vx]).run P w=.ok v S/\GV g' (up (up h k none) D (some (.row l.size (f.take m++u) true))) S (.v D 0 (m+u.length)) v/\Rel g' (up (up h k none) D (some (.row l.size (f.take m++u) true))) S/\
  Ext g h w g' (up (up h k none) D (some (.row l.size (f.take m++u) true))) S/\∀q,g'.U q=true->g.U q=true\/q=D:=by
 obtain⟨i,d,z,hi,hd,hz,hkk,T,WF,WP,hzl,hag⟩:=nN (n6 _ _ In);have E:=hs.src;rw[<-T]at E;obtain⟨f1,f2⟩:=LR hf;have hzs:z.cells.size=l.size:=by
  have:=(mq WP).1;rw[aH]at this;omega
 have pm:=a5.pq.1;have W:∀q,up g.U D true q=true->g.U q=true\/q=D:=fun q hq=>by
  rw[gJ]at hq;split at hq
  .exact .inr ‹_›
  .exact .inl hq
 have N:=K.obj k _ hk;have ii:∀r∈f,r.length=l.size:=by cases N with
  |nilvec=>simp
  |row _ _ _ b c t hk R hF K=>exact K
 have hro:∀r∈f,∀x∈r,x.one=true:=by cases N with
  |nilvec=>simp
  |row _ _ _ b c t hk R hF K hc hv ho=>exact ho
 have eq:∀r∈f.take m++u,r.length=l.size:=fun r H=>by
  rcases aJ.1 H with h1|h1
  .exact ii r (List.mem_of_mem_take h1)
  .exact hs.len r h1
 have ge:∀r∈f.take m++u,∀x∈r,x.one=true:=fun r H=>by
  rcases aJ.1 H with h1|h1
  .exact hro r (List.mem_of_mem_take h1)
  .exact hs.one r h1
 have X:(f.take m).length=m:=by rw[aN];omega
 have qr:=hs.src.newsLen;have rg:up (up h k (some (.row l.size (f.take m++u) true))) k none=up h k none:=by
  funext q
  by_cases e:q=k
  .subst e;rw[aR,aR]
  .rw[bI _ _ _ e,bI _ _ _ e,bI _ _ _ e]
 have Y:∀(B:List Value) (O:Option Addr) (s:Nat),va=.slice O m s->s<m+u.length->B.length=m*l.size->
  (Builtin.firstCells i.size m (.slice O m s)).run P w.drew=.ok B.toArray w.drew->
  (∀(q:Nat) r (j:Nat) x v,(f.take m)[q]? =some r->r[j]? =some x->B[q*l.size+j]? =some v->GV g h w x v)->
  ∃v S g',(Builtin.append_ #[t,tx] ty #[va,vx]).run P w=.ok v S/\GV g' (up (up h k none) D (some (.row l.size (f.take m++u) true))) S (.v D 0 (m+u.length)) v/\Rel g' (up (up h k none) D (some (.row l.size (f.take m++u) true))) S/\
   Ext g h w g' (up (up h k none) D (some (.row l.size (f.take m++u) true))) S/\∀q,g'.U q=true->g.U q=true\/q=D:=by
  intro B O s un C ut wl io;subst un;have G:=run_append_grow_src (P:=P) w t tx ty e i z ht hi hz O m s B wl vx u.length p E C (by omega) (X7 (by omega) (by rw[WF];exact f1));have ip:=grownCap_ge w (m+u.length) s e;have g7:((B++p).toArray++Builtin.zeroCells z.cells (grownCap w (m+u.length) s e-(m+u.length))).size=grownCap w (m+u.length) s e*l.size:=by
   rw[jZ,size_zeroCells,hzs,Nat.sub_mul,bp];simp only[bj,aO,ut,qr];have:(m+u.length)*l.size<=grownCap w (m+u.length) s e*l.size:=Nat.mul_le_mul_right _ ip;rw[bp]at this;omega
  have i8:=(lq (g:=g) (h:=h) (w:=w) (w':=w.drew) rfl rfl rfl rfl).trans (yl (g:=g) (h:=h) w.drew k);have hr0:=FE (qd (w':=w.drew) K rfl rfl rfl rfl) k;obtain⟨a1,a2⟩:=FV hr0 g8 e (f.take m++u) ((B++p).toArray++Builtin.zeroCells z.cells (grownCap w (m+u.length) s e-(m+u.length))) l.size true
   (
    by rw[g7,List.length_append,X];exact aC _ ip) (by simp) eq ge (fun q r j x v hq Z hv=>by
    rw[<-az,gN]at hv;rcases LS (by rw[X];exact ut) qr (fun r H=>ii r (List.mem_of_mem_take H)) hs.len hq Z hv with⟨c1,c2⟩|⟨q',c1,c2⟩
    .exact(io q r j x v c1 Z c2).ext i8
    .exact(hs.at_ q' r j x v c1 Z c2).ext i8)
  refine⟨_,_,_,G,?_,a1,i8.trans a2,W⟩;have:=GV.v (g:={σ:=up g.σ D (some (w.heap.size,l.size)),τ:=g.τ,F:=up g.F w 0,U:=up g.U D true}) (h:=up (up h k none) D (some (.row l.size (f.take m++u) true)))
   (w:=w.drew.alloc (.cells ((B++p).toArray++Builtin.zeroCells z.cells (grownCap w (m+u.length) s e-(m+u.length))) e)) D 0 (m+u.length) w l.size (grownCap w (m+u.length) s e) _ e (0,0)
   (aR _ _ _) (aR _ _ _) (heap_alloc_new w.drew _) (by rw[g7,Nat.zero_add];exact ae _) ip
  rwa[ez]at this
 by_cases hz0:u.length=0
 .have hrs:u=[]:=List.eq_nil_of_length_eq_zero hz0;subst hrs;have G:(Builtin.append_ #[t,tx] ty #[va,vx]).run P w=.ok va w:=by
   rcases a5.pq.2 with⟨_,rfl,_,rfl⟩|⟨rfl,a,rfl⟩|⟨b,jp,cap,c,t',fz,A,rfl,R,C,hn⟩
   .exact lu ht hi E (Nat.le_refl _)
   .exact lu ht hi E (Nat.le_refl _)
   .exact lu ht hi E hn
  have hcut:jP g h w k (.row l.size (f.take m++[]) true):=by
   rw[fh];cases N with
   |nilvec _ h1=>rw[List.take_nil];exact .nilvec _ h1
   |row _ _ _ b c t a9 R hF em hc hv ho hx=>
    have am:m*l.size<=f.length*l.size:=Nat.mul_le_mul_right _ hm;exact .row _ _ _ b c t a9 R hF (fun r H=>em r (List.mem_of_mem_take H)) (by rw[X];omega) (by simp) (fun r H=>ho r (List.mem_of_mem_take H)) (fun q r j x v hq Z I=>hx q r j x v (by
     rw[br]at hq;split at hq
     .exact hq
     .cases hq) Z I)
  have J:Ext g h w g (up h k (some (.row l.size (f.take m++[]) true))) w:={
   n:=fun _ h=>h,size:=ae _,os:=rfl,tape:=rfl,output:=rfl,stays:=jt.refl _ _,out:=fun _ _ _=>⟨rfl,rfl⟩,own:=fun _ h=>.inl h,sig:=fun _ _=>rfl
   tok:=fun q hq n hn=>by
    by_cases e:q=k
    .subst e;rw[aR]at hn;cases hn
    .rw[bI _ _ _ e]at hn;exact⟨n,hn,.inr ⟨rfl,rfl,fun _ _=>⟨rfl,id⟩⟩⟩}
  have em:Rel g (up h k (some (.row l.size (f.take m++[]) true))) w:=by
   refine K.step J (fun q=>q=k\/g.U q=false) K.lt K.fresh ?_ ?_ ?_ ?_
   .intro q hq;exact⟨by rw[bI _ _ _ (fun e=>by rw[e,pm]at hq;cases hq)];exact(K.top q hq).1,(K.top q hq).2⟩
   .intro q q' b a c;exact K.inj q q' b (xM hk (fun n=>by simp) (fun n=>by simp) a) (xM hk (fun n=>by simp) (fun n=>by simp) c)
   .intro q hq;have:q≠k/\g.U q=true:=⟨fun e=>hq (.inl e),by
     cases hu:g.U q with
     |true=>rfl
     |false=>exact absurd (.inr hu) hq⟩
    exact⟨this.2,bI _ _ _ this.1,fun _ _ _ _ _=>⟨rfl,rfl⟩⟩
   .intro q o hq ho;by_cases e:q=k
    .subst e;rw[aR]at ho;cases ho;exact hcut.ext J pm fun _ _ _=>⟨rfl,rfl⟩
    .rcases hq with hq|hq
     .exact absurd hq e
     .rw[bI _ _ _ e,(K.top q hq).1]at ho;cases ho
  obtain⟨a1,a2⟩:=FF em g8 (k:=k) (aR _ _ _) (fun n=>by simp);rw[rg]at a1 a2;refine⟨_,w,_,G,?_,a1,J.trans a2,W⟩;rw[eJ,dI];rcases a5.pq.2 with⟨_,rfl,A,rfl⟩|⟨rfl,a,rfl⟩|⟨b,jp,cap,c,t',fz,A,rfl,R,C,hn⟩
  .exact .vn _ (aR _ _ _) ((aR _ _ _).trans A)
  .exact .ve _ _ _ (aR _ _ _)
  .exact .v _ _ _ b jp cap c t' fz (aR _ _ _) ((aR _ _ _).trans A) R C hn
 .rcases a5.pq.2 with⟨_,rfl,A,rfl⟩|⟨rfl,a,rfl⟩|⟨b,jp,cap,c,t',fz,A,rfl,R,C,hn⟩
  .exact Y [] none 0 rfl (by omega) (by simp) (adp w.drew _ _ _ _) (fun q r j x v hq=>by simp at hq)
  .exact Y [] (some a) 0 rfl (by omega) (by simp) (FB w.drew _ _ _ _ _ [] (by simp) (by simp)) (fun q r j x v hq=>by simp at hq)
  .have wn:=wR K hk A;subst wn;cases N with
   |nilvec _ h1=>rw[A]at h1;cases h1
   |row _ _ _ b2 c2 t2 a9 ww hF em hc hv ho hx=>
    rw[A]at a9;cases a9;rw[R]at ww;cases ww;rw[bc]at C;by_cases L:m+u.length<=cap
    .have am:(m+u.length)*l.size<=cap*l.size:=Nat.mul_le_mul_right _ L;rw[bp]at am;have Q:0*l.size+m*i.size+p.length<=c.size:=by rw[T,Nat.zero_mul];omega
     have G:=wS (ty:=ty) ht hi E L R Q;rw[ez,bc,T]at G;rw[ez,bc,T]at Q;have M:(eB c.toList (m*l.size) p).length=c.size:=by rw[iO (by rw[aH];exact Q),Array.length_toList]
     have Do:At w (w.setRow b (eB c.toList (m*l.size) p).toArray) b:=⟨rfl,rfl,rfl,setRow_size _ _ _,fun y hy=>setRow_other w b y _ hy⟩;have lw:=setRow_heap w b c (eB c.toList (m*l.size) p).toArray t' (0,0) R;have hcc:∀q,(eB c.toList (m*l.size) p).toArray[q]? =if m*l.size<=q/\q<m*l.size+p.length then p[q-m*l.size]? else c[q]? :=fun q=>by
      rw[cK,my (by rw[aH];exact Q)];split
      .rfl
      .exact az ..
     have J:=Dm (h':=up h k (some (.row l.size (f.take m++u) true))) K A (by rw[hk];simp) (fun n=>by rw[hk];simp) R hF Do lw (by simpa using M) (fun q hq=>bI _ _ _ hq) (fun n=>by rw[aR];simp);have hr2:=rp K A hk (fun n=>by simp) (fun n=>by simp) Do J (.row _ _ _ b _ t' A lw hF eq (by rw[aO,X];simp only[bj];rw[M,Nat.add_mul];omega) (by simp) ge (fun q r j x v hq Z I=>by
      rw[hcc]at I;have hjl:=(List.getElem?_eq_some_iff.1 Z).1;by_cases hlt:q<(f.take m).length
      .rw[an hlt]at hq;have H1:=ii r (List.mem_of_mem_take (ag hq));have mp:(q+1)*l.size<=m*l.size:=Nat.mul_le_mul_right _ (by omega);rw[bp]at mp;rw[aI (by omega)]at I;rw[bU (by omega)]at hq;exact(hx q r j x v hq Z I).ext J
      .rw[ay (by omega),X]at hq;have H1:=hs.len r (List.mem_of_getElem? hq);have hql:=(List.getElem?_eq_some_iff.1 hq).1;have mp:(q-m+1)*l.size<=u.length*l.size:=Nat.mul_le_mul_right _ hql;have hm2:m*l.size<=q*l.size:=Nat.mul_le_mul_right _ (by omega);rw[bp,iL]at mp;rw[aS (by omega)]at I;refine(hs.at_ (q-m) r j x v hq Z ?_).ext J;rw[iL];have:q*l.size+j-m*l.size=q*l.size-m*l.size+j:=by omega
       rw[<-this];exact I))
     obtain⟨a1,a2⟩:=FF hr2 g8 (k:=k) (aR _ _ _) (fun n=>by simp);rw[rg]at a1 a2;refine⟨_,_,_,by rw[ez];exact G,?_,a1,J.trans a2,W⟩;have:=GV.v (g:={g with σ:=up g.σ D (g.σ k),U:=up g.U D true}) (h:=up (up h k none) D (some (.row l.size (f.take m++u) true))) (w:=w.setRow b (eB c.toList (m*l.size) p).toArray) D 0 (m+u.length) b l.size cap _ t' (0,0)
      (aR _ _ _) ((aR _ _ _).trans A) lw (by simp only[bj];rw[M,Nat.zero_add];exact C) L
     rwa[ez]at this
    .have am:m*l.size<=cap*l.size:=Nat.mul_le_mul_right _ hn;obtain⟨s1,s2,s3⟩:=rF (w:=w) R (n:=m*l.size) (off:=0) (by omega);refine Y ((c.toList.drop 0).take (m*l.size)) _ cap rfl (by omega) s1 ?_ (fun q r j x v hq Z I=>?_)
     .rw[T,Nat.zero_mul];exact FB w.drew l.size m b m cap _ s1 (by simpa using s2)
     .have h3:=s3 _ v I;rw[bc]at h3;refine hx q r j x v ?_ Z h3;rw[br]at hq;split at hq
      .exact hq
      .cases hq
end
end
section
variable[de]
def aal(tab:gI)(t:TypeId):Bool:=match tab t with|some ⟨.sl _,_,_,_⟩=>true|_=>false
def oN(tab:gI)(h:bw)(n:Nat)(j:Bool)(t l:TypeId)(a x:V):Option Out:=
 match tab t with
 |some ⟨.sl e,_,_,_⟩=>if aal tab l=true then(tab e).bind fun f=>
  match a with
  |.d .z=>bif j then(nj h f.size x).bind fun b=>if fits b.length f.bytes then some ⟨.v (n+1) 0 b.length,[(n,none),(n+1,some (.row f.size b true))],n+2⟩else none
   else(jQ h f.size x).bind fun b=>if fits b.length f.bytes then some ⟨.t n b.length f.size b,[(n,some (.tok b.length))],n+1⟩else none
  |.t k i sz c=>match h k with
   |some (.tok o)=>(jQ h f.size x).bind fun b=>if i=o/\sz=f.size/\fits (c.length+b.length) f.bytes then some ⟨.t k (i+b.length) sz (c++b),[(k,some (.tok (i+b.length)))],n⟩else none
   |_=>none
  |.v k 0 m=>match h k with
   |some (.row sz c p)=>(nj h f.size x).bind fun b=>if m<=c.length/\sz=f.size/\fits (m+b.length) f.bytes then some ⟨.v n 0 (m+b.length),[(k,none),(n,some (.row sz (c.take m++b) true))],n+1⟩else none
   |_=>none
  |_=>none
  else none
 |_=>none
section
variable{P:Program}{g:Gh}{h:bw}{w:World}{tab:gI}
def JC(f:dN P tab)(z:Rel g h w){n:Nat}(hq:g.U n=false)(T:g.U (n+1)=false){mu:Bool}{W ty:TypeId}{a:V}{o:Out}(b:oN tab h n mu t W a x=some o){va vx:Value}(F:GV g h w a va)(r:GV g h w x vx):
 VS P (Builtin.append_ #[t,W] ty #[va,vx]) g h w n o:=by
 unfold oN at b;split at b
 .next e _ _ _ ht=>
  have R:=xQ f ht;split at b
  .next G=>
   have i:∃A,P.underlying W=some (.slice A):=by
    unfold aal at G;split at G
    .next A _ _ _ i=>exact⟨A,xQ f i⟩
    .cases G
   obtain⟨A,i⟩:=i;cases l:tab e with
   |none=>rw[l]at b;cases b
   |some p=>
    rw[l]at b;simp only[aT]at b;split at b
    .cases F.cG;cases mu with
     |true=>
      simp only[LI]at b;cases c:nj h p.size x with
      |none=>rw[c]at b;cases b
      |some B=>
       rw[c]at b;simp only[aT]at b;split at b
       .next H=>
        cases b;obtain⟨a1,a2⟩:=JB z hq p.size;have O:(up h n (some (dX.row p.size [] true))) n=some (.row p.size [] true):=aR _ _ _;have X:=r.ext a2;have Q:nj (up h n (some (dX.row p.size [] true))) p.size x=some B:=by
         rw[<-c];cases x with
         |v k lo m=>
          have I:=r.pq.1;unfold nj;simp only[bI h n (some (dX.row p.size [] true)) (gA hq I)]
         |d y=>cases y<;>rfl
         |_=>rfl
        obtain⟨s,J⟩:=xP a1 i Q X;have Y:({g with U:=up g.U n true}:Gh).U (n+1)=false:=(bI _ _ _ (by omega)).trans T;obtain⟨v,K,L,M,u,C,D,N⟩:=ql f a1 Y R l J ty O (.vn n (aR _ _ _) (z.top n hq).2.1) (aM _) (by rw[bc];exact H);have hh:up (up (up h n (some (dX.row p.size [] true))) n none) (n+1) (some (dX.row p.size ([].take 0++B) true))=ft h [(n,none),(n+1,some (.row p.size B true))]:=by
         unfold ft;simp only[lL,List.foldl_nil,List.take_nil,dt]
         congr 1
         funext q
         by_cases e:q=n
         .subst e;rw[aR,aR]
         .rw[bI _ _ _ e,bI _ _ _ e,bI _ _ _ e]
        rw[bc]at u;rw[hh]at u C D;refine⟨v,K,L,M,u,C,a2.trans D,fun q j=>?_⟩;rcases N q j with h1|h1
        .rcases lm (ae n) (Nat.lt_succ_self n) h1 with h2|h2
         .exact .inl h2
         .exact .inr ⟨h2.1,by show q<n+2;omega⟩
        .exact .inr ⟨by omega,by show q<n+2;omega⟩
       .cases b
     |false=>
      simp only[rj]at b;cases c:jQ h p.size x with
      |none=>rw[c]at b;cases b
      |some B=>
       rw[c]at b;simp only[aT]at b;split at b
       .next H=>
        cases b;obtain⟨s,J⟩:=DC z i c r;obtain⟨v,K,L,M,u,C,D,N⟩:=qk (e':=A) f z R l J (rows:=[]) (k:=n) (en:=0) ty (.lz _) (.nil _ _) (.inl ⟨hq,rfl⟩) (by simpa using H) B.length (.inr hq);refine⟨v,K,L,M,u,C,D,fun q j=>?_⟩;rcases N q j with h1|h1
        .exact .inl h1
        .exact .inr ⟨by omega,by show q<n+1;omega⟩
       .cases b
    .next k en sz E=>
     split at b
     .next n' S=>
      cases c:jQ h p.size x with
      |none=>rw[c]at b;cases b
      |some B=>
       rw[c]at b;simp only[aT]at b;split at b
       .next Z=>
        obtain⟨rfl,rfl,H⟩:=Z;cases b;obtain⟨I,hx,am⟩:=F.tO;obtain⟨s,J⟩:=DC z i c r;obtain⟨v,K,L,M,u,C,D,N⟩:=qk (e':=A) f z R l J ty hx ((am _ S).2 rfl) (.inr S) H (en+B.length) (.inl rfl);refine⟨v,K,L,M,u,C,D,fun q j=>?_⟩;rcases N q j with h1|h1
        .exact .inl h1
        .rw[h1];exact .inl I
       .cases b
     .cases b
    .next k m=>
     split at b
     .next sz E a5 S=>
      cases c:nj h p.size x with
      |none=>rw[c]at b;cases b
      |some B=>
       rw[c]at b;simp only[aT]at b;split at b
       .next Z=>
        obtain⟨hm,rfl,H⟩:=Z;cases b;obtain⟨s,J⟩:=xP z i c r;obtain⟨v,K,L,M,u,C,D,N⟩:=ql f z hq R l J ty S F hm H;refine⟨v,K,L,M,u,C,D,fun q j=>?_⟩;rcases N q j with h1|h1
        .exact .inl h1
        .exact .inr ⟨by omega,by show q<n+1;omega⟩
       .cases b
     .cases b
    .cases b
  .cases b
 .cases b
def BM(zero:List D):Nat->List V
 |0=>[]
 |n+1=>zero.map .d++BM zero n
def FW{zero:List D}{z:List Value}(a:Dr z=some zero):∀n:Nat,GL g h w (BM zero n) ((List.replicate n z).flatten)
 |0=>GL.nil
 |n+1=>by
  rw[abp,ka];exact(rC a).append (FW a n)
def BN(zero:List D):∀n:Nat,∀x∈BM zero n,x.one=true
 |0,x,a=>by cases a
 |n+1,x,a=>by
  rcases aJ.1 a with h1|h1
  .exact BL _ x h1
  .exact BN zero n x h1
def range_zero(z:Array Value)(n:Nat):((Array.range (n*z.size)).map fun i=>z[i % z.size]!).toList=(List.replicate n z.toList).flatten:=by
 apply sL;intro k;rcases cz z.size with d|e
 .have:z.toList=[]:=by apply aD;simpa using d
  rw[this];have b:∀n:Nat,(List.replicate n ([]:List Value)).flatten=[]:=fun n=>by simp
  rw[b];simp[d]
 .have c:∀(n k:Nat),((List.replicate n z.toList).flatten)[k]? =if k<n*z.size then some z[k % z.size]! else none:=by
   intro n;induction n with
   |zero=>intro k;simp
   |succ n ih=>
    intro k;rw[abp,ka];by_cases a:k<z.size
    .rw[an (by simpa using a),if_pos (by rw[bp];omega),adq a];simp[a]
    .rw[ay (by simpa using a),Array.length_toList,ih];have:k % z.size=(k-z.size)% z.size:=by rw[Nat.mod_eq_sub_mod (by omega)]
     rw[this];by_cases f:k-z.size<n*z.size
     .rw[aS f,if_pos (by rw[bp];omega)]
     .rw[aI f,if_neg (by rw[bp];omega)]
  rw[c];by_cases a:k<n*z.size
  .rw[aS a];simp[a]
  .rw[aI a];simp;omega
def xR(n:Nat)(b:Bool)(sz len:Nat)(a:List (List V)):Option Out:=
 bif b then some ⟨.v n 0 len,[(n,some (.row sz a true))],n+1⟩else(yt a).map fun c=>⟨.t n len sz c,[(n,some (.tok len))],n+1⟩
def lx(tab:gI)(n:Nat)(b:Bool)(c:Operand->Option V)(t:TypeId)(len:Nat)(parts:List (Nat×Operand)):Option Out:=
 match tab t with
 |some ⟨.sl e,_,_,_⟩=>(tab e).bind fun a=>(lR c parts).bind fun d=>if len*a.size<=16777216 then(tR (fun i=>some (i*a.size,a.size)) (BM a.zero len) d).bind fun cells=>xR n b a.size len (chunk a.size len cells)else none
 |_=>none
def wT(E:Rel g h w){n:Nat}(hq:g.U n=false){G:Bool}{len:Nat}{a:List (List V)}{o:Out}(c:xR n G sz len a=some o)(e:TypeId)(b:Array Value)(H:a.length=len)(M:b.size=m*sz)(q:len<=m)
 (I:∀r∈a,r.length=sz)(N:∀r∈a,∀x∈r,x.one=true)(J:∀(i:Nat) r (j:Nat) x v,a[i]? =some r->r[j]? =some x->b[i*sz+j]? =some v->GV g h w x v):
 ∃s,GV s (ft h o.us) (w.alloc (.cells b e)) o.x (w.heap.size,len,m)/\Rel s (ft h o.us) (w.alloc (.cells b e))/\Ext g h w s (ft h o.us) (w.alloc (.cells b e))/\∀k,s.U k=true->g.U k=true\/(n<=k/\k<o.n):=by
 have K:len*sz<=m*sz:=Nat.mul_le_mul_right _ q;unfold xR at c;cases G with
 |true=>
  cases c;obtain⟨t,u⟩:=FV E hq e a b sz true (by rw[H];omega) (by simp) I N J;refine⟨_,?_,t,u,fun k z=>lm (ae _) (er _) z⟩;have:=GV.v (g:={σ:=up g.σ n (some (w.heap.size,sz)),τ:=g.τ,F:=up g.F w 0,U:=up g.U n true}) (h:=up h n (some (.row sz a true))) (w:=w.alloc (.cells b e)) n 0 len w sz m b e (0,0)
   (aR _ _ _) (aR _ _ _) (dy w _) (by rw[M,Nat.zero_add];exact ae _) q
  rwa[ez]at this
 |false=>
  simp only[rj]at c;cases f:yt a with
  |none=>rw[f]at c;cases c
  |some O=>
   rw[f]at c;cases c;obtain⟨d1,d2⟩:=vF f;obtain⟨t,u,L⟩:=DD E e b sz m n len O (.inl hq) (by omega) (by omega) (fun r A=>by
    obtain⟨i,B⟩:=List.getElem?_of_mem A;obtain⟨x,l,p⟩:=d2 i r B;rw[(qj p).1];exact I x (List.mem_of_getElem? l)) (fun i r j d v B Q R=>by
    obtain⟨x,l,p⟩:=d2 i r B;obtain⟨y,C,D⟩:=(qj p).2 j d Q;exact QF D (J i x j y v l C R))
   rw[d1,H]at t u L;exact⟨_,L,t,u,fun k z=>lm (ae _) (er _) z⟩
def yu(b:dN P tab)(L:Rel g h w){n:Nat}(hq:g.U n=false){M:Bool}{len:Nat}{parts:Array (Nat×Operand)}{o:Out}{s:Operand->Option V}(N:∀o x,s o=some x->GV g h w x (ρ o))
 (a:lx tab n M s t len parts.toList=some o):VS P (Instr.buildSlice t len (parts.map fun(i,x)=>(i,ρ x))) g h w n o:=by
 unfold lx at a;split at a
 .next e _ _ _ O=>
  have Q:=vD (w:=w) b O;cases c:tab e with
  |none=>rw[c]at a;cases a
  |some d=>
   cases A:lR s parts.toList with
   |none=>rw[c,A]at a;cases a
   |some J=>
    rw[c,A]at a;simp only[aT]at a;split at a
    .next u=>
     cases B:tR (fun i=>some (i*d.size,d.size)) (BM d.zero len) J with
     |none=>rw[B]at a;cases a
     |some cells=>
      rw[B]at a;simp only[aT]at a;obtain⟨z,C,D,R,q⟩:=ms (b _ _ c) w;obtain⟨S,T⟩:=oM A;obtain⟨k,y,K,W,X⟩:=tS (fun i=>some (i*d.size,d.size)) ρ s N parts.toList J (BM d.zero len) ((Array.range (len*z.cells.size)).map fun i=>z.cells[i % z.cells.size]!) cells S T
       (by rw[range_zero];exact FW D len) (BN _ _) B
      have l:k.size=len*d.size:=by rw[X];simp[q]
      have E:cells.length=len*d.size:=by rw[<-K.len,Array.length_toList,l]
      obtain⟨Y,Z,b2,b3,b4⟩:=wT (m:=len) L hq a e k (fF _ _ _) l (Nat.le_refl _) (rE E) (fun r F x hx=>W x (vE F hx)) (fun i r j x v hi hj hv=>
       K.at_ _ x v (kO hi hj).1 (by rw[az];exact hv))
      refine⟨_,_,Y,?_,Z,b2,b3,b4⟩;unfold Instr.buildSlice;have G:(parts.map fun(i,x)=>(i,ρ x)).toList=parts.toList.map fun p=>(p.1,ρ p.2):=by simp
      have H:¬len*d.size>2^24:=by omega
      simp only[aB,Q,Result.andThen_ok,fq (b _ _ c),if_neg H,G];by_cases I:len*d.size=0
      .simp only[aS I,Sem.run_pure,aq];have e0:∀f:Nat->Value,(Array.range 0).map f=#[]:=fun f=>by simp
       simp only[q,I,e0]at y|-;rw[y];rfl
      .simp only[aI I,Sem.run_bind,C,Result.andThen_ok,cH];simp only[q]at y|-;rw[y];rfl
    .cases a
 .cases a
end
end
section
variable[de]
def oO(tab:gI)(n:Nat)(b:Bool)(t:TypeId)(l c:V):Option Out:=
 match tab t,l,c with
 |some ⟨.sl e,_,_,_⟩,.d (.i _ l),.d (.i _ c)=>(tab e).bind fun a=>if 0<=l/\l<=c/\c<=4611686018427387904/\a.bytes*c<=281474976710656 then xR n b a.size l.toNat (List.replicate l.toNat (a.zero.map .d))else none
 |_,_,_=>none
def yv:Sb->Option D
 |.c n=>bif Nat.ble 128 n then none else some (.i .i32 n)
 |.x e b a=>bif Nat.ble 128 a then none else some (.x .i32 e b a)
def BO:D->Option Sb
 |.i .u8 n=>bif lP 0 n&&tN n 256 then some (.c n.toNat)else none
 |.x .u8 e a b=>bif lP 0 a&&tN b 256 then some (.x e a.toNat b.toNat)else none
 |_=>none
def BP:D->Option Sb
 |.i .i32 n=>bif lP 0 n&&tN n 128 then some (.c n.toNat)else none
 |.x .i32 e a b=>bif lP 0 a&&tN b 128 then some (.x e a.toNat b.toNat)else none
 |_=>none
def qm(s:List Sb):Option (List (List D)):=List.rec (some []) (fun x _ ih=>Option.rec none (fun d=>Option.rec none (fun l=>some ([d]::l)) ih) (yv x)) s
def yw(s:List Sb):List (List D):=List.rec [] (fun x _ ih=>[sbD x]::ih) s
def Yb{α β:Type}(f:α->Option β)(r:List α):Option β:=List.rec none (fun d t _=>List.rec (f d) (fun _ _ _=>none) t) r
def Ui(f:D->Option Sb)(l:List (List D)):Option (List Sb):=List.rec (some []) (fun r _ ih=>Option.rec none (fun x=>Option.rec none (fun l=>some (x::l)) ih) (Yb f r)) l
def sC(tab:gI)(h:bw)(n:Nat)(src b:TypeId)(x:V):Option Out:=
 match tab src,tab b with
 |some ⟨.str,_,_,_⟩,some ⟨.sl e,_,_,_⟩=>match tab e,x with
  |some ⟨.int .i32,1,_,_⟩,.d (.s s)=>Option.rec none (fun a=>some ⟨.t n a.length 1 a,[(n,some (.tok a.length))],n+1⟩) (qm s)
  |some ⟨.int .u8,1,_,_⟩,.d (.s s)=>some ⟨.d (.l 1 (yw s)),[(n,none)],n+1⟩
  |_,_=>none
 |some ⟨.sl e,_,_,_⟩,some ⟨.str,_,_,_⟩=>match tab e with
  |some ⟨.int .i32,1,_,_⟩=>(jQ h 1 x).bind fun a=>(Ui BP a).map fun l=>⟨.d (.s l),[],n⟩
  |some ⟨.int .u8,1,_,_⟩=>(jQ h 1 x).bind fun a=>(Ui BO a).map fun l=>⟨.d (.s l),[],n⟩
  |_=>none
 |_,_=>none
def DE(tab:gI)(n:Nat)(t:TypeId)(x:V):Option Out:=
 match tab t,x with
 |some ⟨.str,_,_,_⟩,.d (.s s)=>some ⟨.it n,[(n,some (.it s 0))],n+1⟩
 |_,_=>none
def yx(h:bw)(n:Nat)(x:V)(a:Bool):Option Out:=
 match x,a with
 |.it k,true=>match h k with
  |some (.it (x::s) pos)=>Option.rec none (fun d=>some ⟨.tu [.d (.b true),.d (.i .i64 pos),.d d],[(k,some (.it s (Nat.succ pos)))],n⟩) (yv x)
  |some (.it [] _)=>some ⟨.tu [.d (.b false)],[],n⟩
  |_=>none
 |_,_=>none
def FY{x:Sb}(h:yv x=some d){u:UInt8}(b:x.ok u):u.toNat<128/\∀F w,RD F w d (.int .i32 (Int.ofNat u.toNat)):=by
 cases x with
 |c n=>
  have b:u.toNat=n:=b;have h:(bif Nat.ble 128 n then none else some (D.i .i32 n))=some d:=h;cases a:Nat.ble 128 n with
  |true=>rw[a]at h;cases h
  |false=>
   rw[a]at h;cases h;rw[ry]at a;refine⟨by simp at a;omega,fun F w=>?_⟩;rw[b];exact .i _ _
 |x e j f=>
  obtain⟨k,l,m⟩:=b;have h:(bif Nat.ble 128 f then none else some (D.x .i32 e j f))=some d:=h;cases a:Nat.ble 128 f with
  |true=>rw[a]at h;cases h
  |false=>
   rw[a]at h;cases h;rw[ry]at a;refine⟨by simp at a;omega,fun F w=>?_⟩;show RD F w _ (.int .i32 ((u.toNat:Nat):Int));rw[k];exact .x _ _ _ _ (by omega) (by omega)
def FZ{x:Sb}(h:BO d=some x){F:Nat->Nat}{w:World}(c:RD F w d v):∃n,v=.int .u8 n/\x.ok (UInt8.ofNat n.toNat):=by
 have a:∀n:Int,0<=n->n<256->(UInt8.ofNat n.toNat).toNat=n.toNat:=fun n j k=>by
  simp only[jB];omega
 unfold BO at h;split at h
 .next n=>
  cases c;cases b:(lP 0 n&&tN n 256)with
  |false=>rw[b]at h;cases h
  |true=>
   rw[b]at h;cases h;simp only[ax,jI,lQ,cI]at b;exact⟨_,rfl,a n b.1 b.2⟩
 .next e f i=>
  cases c with|x _ _ _ _ l m=>
  cases b:(lP 0 f&&tN i 256)with
  |false=>rw[b]at h;cases h
  |true=>
   rw[b]at h;cases h;simp only[ax,jI,lQ,cI]at b;have:=a e.val (by omega) (by omega);exact⟨_,rfl,⟨by omega,by omega,by omega⟩⟩
 .cases h
def F9{x:Sb}(h:BP d=some x){F:Nat->Nat}{w:World}(c:RD F w d v):∃n,v=.int .i32 n/\(x.ok (UInt8.ofNat n.toNat)/\0<=n/\n<128):=by
 have a:∀n:Int,0<=n->n<128->(UInt8.ofNat n.toNat).toNat=n.toNat:=fun n j k=>by
  simp only[jB];omega
 unfold BP at h;split at h
 .next n=>
  cases c;cases b:(lP 0 n&&tN n 128)with
  |false=>rw[b]at h;cases h
  |true=>
   rw[b]at h;cases h;simp only[ax,jI,lQ,cI]at b;exact⟨_,rfl,a n b.1 b.2,b.1,b.2⟩
 .next e f i=>
  cases c with|x _ _ _ _ l m=>
  cases b:(lP 0 f&&tN i 128)with
  |false=>rw[b]at h;cases h
  |true=>
   rw[b]at h;cases h;simp only[ax,jI,lQ,cI]at b;have:=a e.val (by omega) (by omega);exact⟨_,rfl,⟨by omega,by omega,by omega⟩,by omega,by omega⟩
 .cases h
section
variable{P:Program}{g:Gh}{h:bw}{w:World}{tab:gI}
def Bf(a:dN P tab)(R:Rel g h w){n:Nat}(hq:g.U n=false){S:Bool}{l c:V}{o:Out}(k:oO tab n S t l c=some o){M N:Value}(T:GV g h w l M)(W:GV g h w c N):
 VS P (Instr.makeSlice t M N) g h w n o:=by
 unfold oO at k;split at k
 .next e _ _ _ k1 l k2 c X=>
  have Y:=vD (w:=w) a X;cases b:tab e with
  |none=>rw[b]at k;cases k
  |some q=>
   rw[b]at k;simp only[aT]at k;split at k
   .next Z=>
    obtain⟨b1,b2,b3,b4⟩:=Z;cases T.cG;cases W.cG;obtain⟨am,F,a5,G⟩:=Qq (a _ _ b) w;obtain⟨z,H,u,a9,p⟩:=ms (a _ _ b) w;have w1:=IntWalk.i64_in l (by omega);have w2:=IntWalk.i64_in c (by omega);have y:q.zero.length=q.size:=by
     have:=(mq u).1;rw[aH]at this;omega
    have I:GL g h w (q.zero.map .d) z.cells.toList:=rC u;obtain⟨g',c1,c2,c3,c4⟩:=wT (m:=c.toNat) R hq k e ((Array.range (c.toNat*z.cells.size)).map fun i=>z.cells[i % z.cells.size]!) (by simp) (by simp[p]) (by omega)
     (
      fun r s=>by rw[gi s,List.length_map,y]) (fun r s x hx=>BL q.zero x (by rw[<-gi s];exact hx)) (fun i r j x v O J A=>by
      have K:=(List.getElem?_eq_some_iff.1 O).1;rw[jO]at K;have L:=List.eq_of_mem_replicate (ag O);rw[L]at J;have B:=(List.getElem?_eq_some_iff.1 J).1;rw[aj,y]at B;refine I.at_ j x v J ?_;have C:=(Array.getElem?_eq_some_iff.1 A).1;simp only[Array.size_map,Array.size_range]at C;rw[Array.getElem?_map,Array.getElem?_range,aS C]at A;simp only[cj,aK]at A;have D:(i*q.size+j)% z.cells.size=j:=by rw[p,Nat.mul_add_mod',adq B]
      rw[D,getElem!_pos z.cells j (by omega)]at A;rw[az,dE (by omega),A])
    refine⟨_,_,g',?_,c1,c2,c3,c4⟩;unfold Instr.makeSlice;have E:(askRoom (c.toNat*q.bytes)).run P w=.ok () w:=by unfold askRoom;split<;>rfl
    have h3:¬(281474976710656<(q.bytes:Int)*c):=by omega
    have h4:¬c<0:=by omega
    have h5:¬l<0:=by omega
    have h6:¬c<l:=by omega
    simp only[aB,Y,Result.andThen_ok,asInt,asIntOf,cH,F,G,w1,w2];simp[h3,h4,h5,h6,E,fq (a _ _ b)];rw[p];split
    .next h0=>
     rw[h0];have Q:∀f:Nat->Value,(Array.range 0).map f=#[]:=fun f=>by simp
     rw[Q,Q];rfl
    .rw[H];simp only[aq,p];rfl
   .cases k
 .cases k
def wU{x:Sb}{a:List (List D)}(h:qm (x::s)=some a):∃d l,yv x=some d/\qm s=some l/\a=[d]::l:=by
 have h:(Option.rec none (fun d=>Option.rec none (fun l=>some ([d]::l)) (qm s)) (yv x):Option (List (List D)))=some a:=h;cases b:yv x with
 |none=>rw[b]at h;cases h
 |some d=>
  rw[b]at h;cases c:qm s with
  |none=>rw[c]at h;cases h
  |some l=>rw[c]at h;cases h;exact⟨d,l,rfl,rfl,rfl⟩
def Ga{b:ByteArray}{u:UInt8}{r:List UInt8}(h:b.data.toList.drop i=u::r):i<b.size/\b.get! i=u/\b.data.toList.drop (i+1)=r:=by
 have a:(b.data.toList.drop i)[0]? =some u:=by rw[h];rfl
 rw[bd,dI]at a;have d:=(List.getElem?_eq_some_iff.1 a);obtain⟨c,e⟩:=d;have f:i<b.size:=by simpa using c
 refine⟨f,?_,?_⟩
 .have:b.get! i=b.data[i]! :=rfl;rw[this,getElem!_pos b.data i (by simpa using c)];simpa using e
 .rw[<-ir,h];rfl
def tU{b:ByteArray}(h:(b.get! i).toNat<128):Utf8.decode b i=((b.get! i).toNat,1):=by
 unfold Utf8.decode;simp only[dI];rw[aS h]
def xw:∀{e:List (List D)},qm s=some e->∀(b:ByteArray) (n i:Nat) (k:Array Value),SR s (b.data.toList.drop i)->s.length<=n->
 ∃f:List Value,(Conv.runesFrom b n i k).toList=k.toList++f/\f.length=e.length/\∀(j:Nat) r v,e[j]? =some r->f[j]? =some v->∃d,r=[d]/\∀F w,RD F w d v:=by
 induction s with
 |nil=>
  intro e h b n i k m o;cases h;have t:=m.len;rw[cS]at t;have z:¬i<b.size:=by
   have:b.size=b.data.toList.length:=rfl;simp at t;simp at this;omega
  refine⟨[],?_,rfl,fun j r v h=>by simp at h⟩;cases n with
  |zero=>simp[Conv.runesFrom]
  |succ n=>unfold Conv.runesFrom;rw[aI z];simp
 |cons x s ih=>
  intro e h b n i k m o;obtain⟨d,l,A,B,rfl⟩:=wU h;cases n with
  |zero=>simp at o
  |succ n=>
   cases p:b.data.toList.drop i with
   |nil=>have:=m.len;rw[p]at this;cases this
   |cons u r=>
    rw[p]at m;obtain⟨C,y,E⟩:=Ga p;have G:=m.at_ 0 x u rfl rfl;have q:SR s (b.data.toList.drop (i+1)):=by
     rw[E];exact⟨by simpa using m.len,fun j x u a c=>m.at_ (j+1) x u a c⟩
    obtain⟨H,I⟩:=FY A G;obtain⟨f,v1,v2,v3⟩:=ih B b n (i+1) (k.push (.int .i32 (Int.ofNat u.toNat))) q (by simpa using o);refine⟨.int .i32 (Int.ofNat u.toNat)::f,?_,by simp[v2],fun j r v a c=>?_⟩
    .unfold Conv.runesFrom;rw[aS C,tU (by rw[y];exact H),y];show(Conv.runesFrom b n (i+1) _).toList=_;rw[v1];simp
    .cases j with
     |zero=>simp at a c;subst a;subst c;exact⟨d,rfl,I⟩
     |succ j=>exact v3 j r v (by simpa using a) (by simpa using c)
def yy:∀{a:List (List D)},qm s=some a->∀r∈a,∃d,r=[d]:=by
 induction s with
 |nil=>intro a h r b;cases h;cases b
 |cons x s ih=>
  intro a h r b;obtain⟨d,l,e,c,rfl⟩:=wU h;rcases aw.1 b with rfl|b
  .exact⟨d,rfl⟩
  .exact ih c r b
def QH(s:Rel g h w)(hq:g.U q=false)(e:TypeId)(a:List (List D))(b:Array Value)(cap:Nat)(c:Nat×Nat)(H:cap=b.size)(t:a.length<=cap)(u:∀r∈a,r.length=1)
 (y:∀(i:Nat) r (j:Nat) d v,a[i]? =some r->r[j]? =some d->b[i*1+j]? =some v->RD g.F w d v):
 ∃m,GV m (up h q none) (w.alloc (.cells b e c)) (.d (.l 1 a)) (w.heap.size,a.length,cap)/\Rel m (up h q none) (w.alloc (.cells b e c))/\Ext g h w m (up h q none) (w.alloc (.cells b e c))/\∀k,m.U k=true->g.U k=true\/(q<=k/\k<q+1):=by
 obtain⟨z,A⟩:=LM s (.cells b e c) a.length q 0 (.inl hq);have o:=FE z q;have n:=A.trans (yl (h:=up h q (some (.tok 0))) (w.alloc (.cells b e c)) q);have B:up (up h q (some (.tok 0))) q none=up h q none:=by
  funext x
  by_cases e:x=q
  .subst e;rw[aR,aR]
  .rw[bI _ _ _ e,bI _ _ _ e,bI _ _ _ e]
 rw[B]at o n;refine⟨_,.d _ _ ?_,o,n,fun k C=>lm (ae _) (er _) C⟩;have f:=heap_alloc_new w (.cells b e c);refine .l 1 a w 0 cap b e c f ?_ ?_ (by omega) t u fun i r j d v E G p=>?_
 .show _<=up g.F w a.length w.heap.size;rw[aR];omega
 .show up g.F w a.length w.heap.size<=_;rw[aR];omega
 .rw[bc]at p;exact(y i r j d v E G p).stay n.stays
def QI{f:D->Option Sb}{r:List D}{b:List (List D)}{l:List Sb}(h:Ui f (r::b)=some l):∃d x t,r=[d]/\f d=some x/\Ui f b=some t/\l=x::t:=by
 have h:(Option.rec none (fun x=>Option.rec none (fun l=>some (x::l)) (Ui f b)) (Yb f r):Option (List Sb))=some l:=h;cases a:Yb f r with
 |none=>rw[a]at h;cases h
 |some x=>
  rw[a]at h;cases c:Ui f b with
  |none=>rw[c]at h;cases h
  |some t=>
   rw[c]at h;cases h
   match r,a with
   |[d],a=>exact⟨d,x,t,rfl,a,rfl,rfl⟩
def BQ{f:D->Option Sb}{k:IntKind}{G:Sb->Int->Prop}{F:Nat->Nat}(s:∀d x,f d=some x->∀v,RD F w d v->∃n,v=.int k n/\G x n):∀{j:List (List D)} {l:List Sb} {e:List Value},Ui f j=some l->e.length=j.length->
 (∀(i:Nat) r d u,j[i]? =some r->r[0]? =some d->e[i]? =some u->RD F w d u)->∃o:List Int,e=o.map (Value.int k)/\o.length=l.length/\∀(i:Nat) x n,l[i]? =some x->o[i]? =some n->G x n
 |[],l,e,h,p,q=>by
  cases h;rw[aD p];exact⟨[],rfl,rfl,fun i x n h=>by simp at h⟩
 |r::z,l,[],h,p,q=>by simp at p
 |r::z,l,v::e,h,p,q=>by
  obtain⟨d,x,t,rfl,A,B,rfl⟩:=QI h;obtain⟨n,rfl,C⟩:=s d x A v (q 0 [d] d v rfl rfl rfl);obtain⟨o,rfl,E,H⟩:=BQ s B (by simpa using p) fun i r d u a b c=>q (i+1) r d u (by simpa using a) b (by simpa using c);refine⟨n::o,rfl,by simp[E],fun i y m a b=>?_⟩;cases i with
  |zero=>simp at a b;subst a;subst b;exact C
  |succ i=>exact H i y m (by simpa using a) (by simpa using b)
def yz(l:List Int):∀s:ByteArray,(l.foldl (fun r n=>r.push (UInt8.ofNat n.toNat)) s).data.toList=s.data.toList++l.map fun n=>UInt8.ofNat n.toNat:=by
 induction l with
 |nil=>intro s;simp
 |cons n l ih=>intro s;rw[lL,ih];simp[ByteArray.push]
def DF(l:List Int)(a:∀n∈l,0<=n/\n<128):∀s:ByteArray,(l.foldl (fun r n=>r++Utf8.encode n) s).data.toList=s.data.toList++l.map fun n=>UInt8.ofNat n.toNat:=by
 induction l with
 |nil=>intro s;simp
 |cons n l ih=>
  intro s;rw[lL,ih (fun m c=>a m (by simp[c]))];have b:=a n (by simp);have:(s++Utf8.encode n).data.toList=s.data.toList++(Utf8.encode n).data.toList:=by simp[nB]
  rw[this,oL b.1 b.2];simp
end
end
section
variable[de]
section
variable{P:Program}{g:Gh}{h:bw}{w:World}{tab:gI}
def QJ{a b:World}(c:a.heap=b.heap)(d:a.tape=b.tape)(e:a.drawn=b.drawn)(f:a.os=b.os)(i:a.output=b.output):a=b:=by
 cases a;cases b;simp_all
def Bg(w:World)(e:TypeId)(s:ByteArray):Lib.bytesWorld w e s=w.drew.alloc (.cells (Lib.bytesCells w e s) e ((Lib.bytesCells w e s).size,(Lib.bytesCells w e s).size+1)):=by
 refine QJ ?_ rfl rfl rfl rfl;apply Fw;intro j;rcases Nat.lt_trichotomy j w with h1|h1|h1
 .rw[ada w e s j h1];exact(aG w.drew _ (h:=h1)).symm
 .subst h1;rw[adb];exact(dy w.drew _).symm
 .rw[cV (by rw[FC];omega),cV (by simp;omega)]
def Gb{e:List (List D)}(d:jQ h size x=some e)(f:GV g h w x v):∃a n c,v=.slice a n c/\(a=none->n=0/\c=0):=by
 unfold jQ at d;split at d
 .cases f.cG;exact⟨_,_,_,rfl,fun _=>⟨rfl,rfl⟩⟩
 .rcases f.cG.qi with⟨_,rfl⟩|⟨b,i,cap,c,j,k,rfl,_⟩
  .exact⟨_,_,_,rfl,fun _=>⟨rfl,rfl⟩⟩
  .exact⟨_,_,_,rfl,fun h=>by cases h⟩
 .rcases f.tO.2.1.qi with⟨_,rfl⟩|⟨b,i,cap,c,j,k,rfl,_⟩
  .exact⟨_,_,_,rfl,fun _=>⟨rfl,rfl⟩⟩
  .exact⟨_,_,_,rfl,fun h=>by cases h⟩
 .rcases f.pq.2 with⟨_,rfl,_,rfl⟩|⟨rfl,a,rfl⟩|⟨b,sz,cap,c,j,k,_,rfl,_⟩
  .exact⟨_,_,_,rfl,fun _=>⟨rfl,rfl⟩⟩
  .exact⟨_,_,_,rfl,fun h=>by cases h⟩
  .exact⟨_,_,_,rfl,fun h=>by cases h⟩
 .cases d
def BR:∀s:List Sb,yw s=s.map fun x=>[sbD x]
 |[]=>rfl
 |x::s=>by show[sbD x]::yw s=_;rw[BR s];rfl
def Bh(t:dN P tab)(hr:Rel g h w){n:Nat}(hq:g.U n=false){src N:TypeId}{o:Out}(q:sC tab h n src N x=some o)(B:GV g h w x v):VS P (convert src N v) g h w n o:=by
 unfold sC at q;split at q
 .next _ _ _ e _ _ _ hs ht=>
  obtain⟨d1,e1,k1,L⟩:=dj (t _ _ hs) w;have O:=xQ t ht;split at q
  .next _ _ s X=>
   cases m:qm s with
   |none=>rw[m]at q;cases q
   |some p=>
   rw[m]at q;cases q;cases B.cG;rename_i C M;obtain⟨d3,e3,Q,E⟩:=dj (t _ _ X) w;cases d1<;>simp[eM]at k1;cases d3<;>simp[eM]at Q;subst Q;obtain⟨i8,v1,v2,v3⟩:=xw m C C.size 0 #[] (by simpa using M) (by rw[<-M.len];exact ae _);simp only[dt]at v1;have y:(Conv.runesFrom C C.size 0 #[]).size=p.length:=by
    have:=dY List.length v1;simpa[v2]using this
   have Y:Rel g h w.drew:=qd hr rfl rfl rfl rfl;have Z:=grownCap_ge w p.length 0 e;obtain⟨a1,a2,a3⟩:=DD Y e (Conv.runesFrom C C.size 0 #[]++Array.replicate (grownCap w p.length 0 e-p.length) (.int .i32 0)) 1 (grownCap w p.length 0 e) n p.length p (.inl hq)
    (
     by simp[y];omega) Z (fun r R=>by obtain⟨c,rfl⟩:=yy m r R;rfl) (fun i r j d v I hj B=>by
     obtain⟨c,rfl⟩:=yy m r (List.mem_of_getElem? I);have am:=(List.getElem?_eq_some_iff.1 I).1;have a5:j=0:=by have:=(aa.1 hj).1;simp at this;omega
     subst a5;simp at hj;subst hj;rw[iM,dI,<-az,gN,an (by simp[y];omega),v1]at B;obtain⟨d',io,em⟩:=v3 i _ v I (by simpa using B);cases io;exact em _ _)
   refine⟨_,_,_,?_,a3,a1,(lq (g:=g) (h:=h) (w:=w) (w':=w.drew) rfl rfl rfl rfl).trans a2,fun k hk=>lm (ae _) (Nat.lt_succ_self _) hk⟩;unfold convert;simp[bT L,run_underlying O,run_underlying E,Conv.stringToRunes,newRow,Question.forced,grownCap,y,Result.andThen]
  .next _ _ s X=>
   cases q;cases B.cG;rename_i C M;obtain⟨d3,e3,Q,E⟩:=dj (t _ _ X) w;cases d3<;>simp[eM]at Q;subst Q;have T:=Lib.run_convert_string_bytes (P:=P) w src N e C L O E;rw[Bg]at T;have a9:=BR s;have eq:(yw s).length=C.size:=by rw[a9,List.length_map,<-M.len];rfl
   have Z:=grownCap_ge w C.size 0 e;have Y:Rel g h w.drew:=qd hr rfl rfl rfl rfl;obtain⟨g',a1,a2,a3,a4⟩:=QH Y hq e (yw s) (Lib.bytesCells w e C) (grownCap w C.size 0 e) ((Lib.bytesCells w e C).size,(Lib.bytesCells w e C).size+1)
    (
     by
     unfold Lib.bytesCells;rw[jZ,Array.size_map,oD];have:C.data.size=C.size:=rfl;omega) (by rw[eq];exact Z) (fun r R=>by
      rw[a9]at R;obtain⟨b,_,rfl⟩:=List.mem_map.1 R;rfl) (fun i r j d v I hj B=>by
      rw[a9]at I;rw[ai]at I;cases hb:s[i]? with
      |none=>rw[hb]at I;cases I
      |some b=>
       rw[hb]at I;simp only[cj,aK]at I;subst I;have a5:j=0:=by have:=(aa.1 hj).1;simp at this;omega
       subst a5;simp at hj;subst hj;have am:=(List.getElem?_eq_some_iff.1 hb).1;have W:i<C.data.toList.length:=by rw[M.len];exact am
       have ge:=List.getElem?_eq_getElem W;rw[iM,dI]at B;unfold Lib.bytesCells at B;rw[<-az,gN,an (by simpa using W),Array.toList_map,ai,ge]at B;simp only[cj,aK]at B;subst B;exact Jw (M.at_ i b _ hb ge))
   rw[eq]at a1;exact⟨_,_,g',T,a1,a2,(lq (g:=g) (h:=h) (w:=w) (w':=w.drew) rfl rfl rfl rfl).trans a3,a4⟩
  .cases q
 .next e _ _ _ _ _ _ hs ht=>
  have L:=xQ t hs;obtain⟨d2,e2,k2,O⟩:=dj (t _ _ ht) w;cases d2<;>simp[eM]at k2;have load:∀(k:IntKind) (f:D->Option Sb) (G:Sb->Int->Prop) (p:List (List D)) (l:List Sb),jQ h 1 x=some p->Ui f p=some l->(∀d x,f d=some x->∀v,RD g.F w d v->∃n,v=.int k n/\G x n)->
   ∃z:List Int,z.length=l.length/\(∀(i:Nat) x n,l[i]? =some x->z[i]? =some n->G x n)/\(v=zn/\z=[]\/∃a n c,v=.slice (some a) n c/\(loadCells a n).run P w=.ok (z.map (Value.int k)).toArray w):=by
   intro k f G p l m S hf;obtain⟨jp,J⟩:=DC hr L m B;have g7:=J.src.newsLen;rw[iM]at g7;obtain⟨z,hn,c1,c2⟩:=BQ hf S g7 fun i r d u a b c=>J.at_ i r 0 d u a b (by rw[iM,dI];exact c);have y:=J.src.len w;have K:=J.src.cells;obtain⟨a,n,c,rfl,g8⟩:=Gb m B;have ii:n=p.length:=by
    have:(Builtin.lenOf (.slice a n c)).run P w=.ok n w:=rfl;rw[this]at y;cases y;rfl
   refine⟨z,c1,c2,?_⟩;cases a with
   |none=>
    obtain⟨rfl,rfl⟩:=g8 rfl;refine .inl ⟨rfl,List.eq_nil_of_length_eq_zero ?_⟩;have:=dY List.length hn;rw[aj]at this;omega
   |some a=>
    refine .inr ⟨a,n,c,rfl,?_⟩;have:(Builtin.firstCells 1 p.length (.slice (some a) n c)).run P w=(loadCells a (p.length*1)).run P w:=rfl;rw[this,iM,<-ii,hn]at K;exact K
  split at q
  .next _ _ X=>
   obtain⟨d3,e3,Q,E⟩:=dj (t _ _ X) w;cases d3<;>simp[eM]at Q;subst Q;cases m:jQ h 1 x with
   |none=>rw[m]at q;cases q
   |some p=>
    rw[m]at q;simp only[aT]at q;cases S:Ui BP p with
    |none=>rw[S]at q;cases q
    |some l=>
     rw[S]at q;cases q;obtain⟨z,c1,c2,c3⟩:=load .i32 BP (fun x n=>x.ok (UInt8.ofNat n.toNat)/\0<=n/\n<128) p l m S (fun d x h v B=>F9 h B);have ip:∀n∈z,0<=n/\n<128:=fun n hn=>by
      obtain⟨i,I⟩:=List.getElem?_of_mem hn;have am:=(List.getElem?_eq_some_iff.1 I).1;exact(c2 i l[i] n (List.getElem?_eq_getElem (by omega)) I).2
     have A:SR l (runesBytes z).data.toList:=by
      unfold runesBytes;rw[DF z ip];refine⟨by simp[c1],fun i x u a b=>?_⟩;have b:(z.map fun n=>UInt8.ofNat n.toNat)[i]? =some u:=by simpa using b
      rw[ai]at b;cases hq:z[i]? with
      |none=>rw[hq]at b;cases b
      |some n=>rw[hq]at b;cases b;exact(c2 i x n a hq).1
     refine VS.pure hr (v:=(runesBytes z)) ?_ (.d _ _ (.s _ _ A));have H:(convert src N v).run P w=(Conv.runesToString v).run P w:=by
      unfold convert;rcases c3 with⟨rfl,_⟩|⟨a,n,c,rfl,_⟩<;>simp[bT L,run_underlying O,run_underlying E]
     rw[H];rcases c3 with⟨rfl,rfl⟩|⟨a,n,c,rfl,h2⟩
     .rfl
     .exact run_runesToString w a n c z h2
  .next _ _ X=>
   obtain⟨d3,e3,Q,E⟩:=dj (t _ _ X) w;cases d3<;>simp[eM]at Q;subst Q;cases m:jQ h 1 x with
   |none=>rw[m]at q;cases q
   |some p=>
    rw[m]at q;simp only[aT]at q;cases S:Ui BO p with
    |none=>rw[S]at q;cases q
    |some l=>
     rw[S]at q;cases q;obtain⟨z,c1,c2,c3⟩:=load .u8 BO (fun x n=>x.ok (UInt8.ofNat n.toNat)) p l m S (fun d x h v B=>FZ h B);have A:SR l (z.foldl (fun r n=>r.push (UInt8.ofNat n.toNat)) ByteArray.empty).data.toList:=by
      rw[yz];refine⟨by simp[c1],fun i x u a b=>?_⟩;have b:(z.map fun n=>UInt8.ofNat n.toNat)[i]? =some u:=by simpa using b
      rw[ai]at b;cases hq:z[i]? with
      |none=>rw[hq]at b;cases b
      |some n=>rw[hq]at b;cases b;exact c2 i x n a hq
     refine VS.pure hr (v:=.string (z.foldl (fun r n=>r.push (UInt8.ofNat n.toNat)) ByteArray.empty)) ?_ (.d _ _ (.s _ _ A));have H:(convert src N v).run P w=(Conv.bytesToString v).run P w:=by
      unfold convert;rcases c3 with⟨rfl,_⟩|⟨a,n,c,rfl,_⟩<;>simp[bT L,run_underlying O,run_underlying E]
     rw[H];rcases c3 with⟨rfl,rfl⟩|⟨a,n,c,rfl,h2⟩
     .rfl
     .exact run_bytesToString w a n c z h2
  .cases q
 .cases q
def NQ(a:dN P tab)(i:Rel g h w){n:Nat}(hq:g.U n=false){o:Out}(b:DE tab n t x=some o)(j:GV g h w x v):VS P (Instr.range t v) g h w n o:=by
 unfold DE at b;split at b
 .next _ _ _ s l=>
  cases b;cases j.cG;rename_i f c;obtain⟨d,m,e,r⟩:=dj (a _ _ l) w;cases d<;>simp[eM]at e;obtain⟨p,q⟩:=xL i hq (.stringIter f 0) 0 (.it s 0) (fun _=>by simp) (.it s 0 w 0 f (aR _ _ _) (heap_alloc_new w _) (by simpa using c));refine⟨_,_,_,?_,.it n w 0 (aR _ _ _) (aR _ _ _),p,q,fun k e=>lm (ae _) (Nat.lt_succ_self _) e⟩;unfold Instr.range;simp only[aB,m,Result.andThen_ok,cH];rfl
 .cases b
def QK(C:Rel g h w){n:Nat}{E:Bool}{o:Out}(z:yx h n x E=some o)(N:GV g h w x v)(R:TypeId):VS P (Instr.next v E R) g h w n o:=by
 unfold yx at z;split at z
 .next k=>
  split at z
  .next x s pos D=>
   cases K:yv x with
   |none=>rw[K]at z;cases z
   |some d=>
   rw[K]at z;cases z;cases N with
   |it _ b sz S B=>
    cases C.obj k _ D with
    |it _ _ T L l m F e=>
     rw[B]at m;cases m;have p:(getObj b).run P w=.ok (.stringIter l pos) w:=by
      show(Sem.getObj b .pure).run P w=_;simp only[Sem.run,F]
     cases f:l.data.toList.drop pos with
     |nil=>have:=e.len;rw[f]at this;cases this
     |cons u r=>
      rw[f]at e;obtain⟨U,O,W⟩:=Ga f;have X:=e.at_ 0 x u rfl rfl;have G:SR s (l.data.toList.drop (pos+1)):=by
       rw[W];exact⟨by simpa using e.len,fun j x u a c=>e.at_ (j+1) x u a c⟩
      obtain⟨Y,Z⟩:=FY K X;have A:=tU (b:=l) (i:=pos) (by rw[O];exact Y);rw[O]at A;have H:=C.lt b (nM.Jr B);have I:(setObj b (.stringIter l (pos+1))).run P w=.ok () {w with heap:=w.heap.setIfInBounds b (.stringIter l (pos+1))}:=by
       show(Sem.setObj b _ (.pure ())).run P w=_;simp only[Sem.run,F]
      have J:At w {w with heap:=w.heap.setIfInBounds b (.stringIter l (pos+1))} b:=⟨rfl,rfl,rfl,by simp,fun y hy=>by simp[dc,Ne.symm hy]⟩;have Q:=Dp (h':=up h k (some (.it s (pos+1)))) C B (fun c t fz=>by rw[F];simp) J (fun q hq=>bI _ _ _ hq) (fun n=>by rw[aR];simp);have M:=rp C B D (fun n=>by simp) (fun n=>by simp) J Q (.it s _ b sz l B (by simp[H]) G);refine⟨.tuple #[true,goInt pos,.int .i32 (Int.ofNat u.toNat)],_,g,?_,?_,M,Q,fun k D=>.inl D⟩
      .unfold Instr.next;simp only[aB,p,Result.andThen_ok,aS U,A,I,Sem.run_pure];rfl
      .exact .tu _ [true,goInt pos,.int .i32 (Int.ofNat u.toNat)] rfl (GL.cons (.d _ _ (.b _)) (GL.cons (.d _ _ (.i _ _)) (GL.cons (.d _ _ (Z _ _)) GL.nil))).at_
  .next pos D=>
   cases z;cases N with
   |it _ b sz S B=>
    cases C.obj k _ D with
    |it _ _ T L l m F e=>
     rw[B]at m;cases m;have p:(getObj b).run P w=.ok (.stringIter l pos) w:=by
      show(Sem.getObj b .pure).run P w=_;simp only[Sem.run,F]
     have hp:¬pos<l.size:=by
      have:=e.len;rw[cS]at this;have h2:l.size=l.data.toList.length:=rfl;simp at this;simp at h2;omega
     refine VS.pure C (v:=.tuple #[false]) ?_ (.tu _ [false] rfl (GL.cons (.d _ _ (.b _)) GL.nil).at_);unfold Instr.next;simp only[aB,p,Result.andThen_ok,aI hp];rfl
  .cases z
 .cases z
end
end
section
variable[de]
def dF(n:Nat)(x:V):Out:=⟨x,[],n⟩
def Gd(a:Operand->Option V):Option Operand->Option (Option V)
 |none=>some none
 |some o=>(a o).map some
def cM(j:gI)(g:Operand->Option V)(h:bw)(n:Nat)(m:Bool)(op:Op):Option Out:=
 match op with
 |.move x=>(g x).map (dF n)
 |.assign x=>(g x).map (dF n)
 |.pick c a b=>(g c).bind fun c=>(LN c (g a) (g b)).map (dF n)
 |.alloc e=>DB j n e
 |.box _ x=>(g x).bind (UD n)
 |.build t o=>(yq j g t o.toList).map (dF n)
 |.buildSlice t len o=>lx j n m g t len o.toList
 |.load t a=>(g a).bind fun a=>(nO j h t a).map (dF n)
 |.store t a x=>(g a).bind fun a=>(g x).bind fun x=>sR j h n t a x
 |.nilCheck x=>(g x).bind fun x=>(rB x).map (dF n)
 |.binOp op t x y _=>(g x).bind fun x=>(g y).bind fun y=>(Jt h j op t x y).map (dF n)
 |.unOp op _ x=>(g x).bind fun x=>(unV op x).map (dF n)
 |.convert s d x=>(g x).bind fun x=>match yo j s d x with
  |some y=>some (dF n y)
  |none=>sC j h n s d x
 |.makeFunc fn a b=>(xu g a.toList).bind fun a=>(xu g b.toList).map fun b=>dF n (mr fn a b)
 |.makeSlice t l c=>(g l).bind fun l=>(g c).bind fun c=>oO j n m t l c
 |.slice t x p q none=>(g x).bind fun x=>(Gd g p).bind fun p=>(Gd g q).bind fun q=>(sP j h t x p q).map (dF n)
 |.fieldAddr s x f=>(g x).bind fun x=>(Dy j s x f).map (dF n)
 |.field t x f=>(g x).bind fun x=>(Dx j t x f).map (dF n)
 |.indexAddr t x i=>(g x).bind fun x=>(g i).bind fun i=>(sO j h t x i).map (dF n)
 |.index t x i=>(g x).bind fun x=>(g i).bind fun i=>(Dz j t x i).map (dF n)
 |.range t x=>(g x).bind fun x=>DE j n t x
 |.next x s=>(g x).bind fun x=>yx h n x s
 |.extract x i=>(g x).bind fun x=>(tP x i).map (dF n)
 |.call {callee:=.builtin .len,args:=⟨[x]⟩,argTypes:=⟨t::_⟩}=>(g x).bind fun x=>(NI j t x).map (dF n)
 |.call {callee:=.builtin .max,args:=⟨k⟩,argTypes:=_}=>(xu g k).bind fun k=>(Uy k).map (dF n)
 |.call {callee:=.builtin .min,args:=⟨k⟩,argTypes:=_}=>(xu g k).bind fun k=>(Uz k).map (dF n)
 |.call {callee:=.builtin .append,args:=⟨[a,x]⟩,argTypes:=⟨[t,tx]⟩}=>(g a).bind fun a=>(g x).bind fun x=>oN j h n m t tx a x
 |_=>none
def Step(P:Program)(g:Gh)(h:bw)(w:World)(n:Nat)(o:Out)(r:Result Next):Prop:=
 ∃v a b,(r=.ok (.value v) a\/(r=.ok .skip a/\v=undef))/\GV b (ft h o.us) a o.x v/\Rel b (ft h o.us) a/\Ext g h w b (ft h o.us) a/\∀k,b.U k=true->g.U k=true\/(n<=k/\k<o.n)
def Step.vG{n:Nat}{o:Out}{s:Sem Value}{r:Result Next}(j:VS P s g h w n o)(A:r=(do pure (Next.value (<-s)):Sem Next).run P w):Step P g h w n o r:=by
 obtain⟨v,B,C,D,E,H,I,J⟩:=j;refine⟨v,B,C,.inl ?_,E,H,I,J⟩;rw[A,Sem.run_bind,D];rfl
def Step.gG{s:Sem Value}{r:Result Next}{n:Nat}(hrel:Rel g h w)(j:s.run P w=.ok v w)(A:GV g h w x v)(B:r=(do pure (Next.value (<-s)):Sem Next).run P w):Step P g h w n (dF n x) r:=
 Step.vG (VS.pure hrel j A) B
def gd{α β:Type}{x:Option α}{f:α->Option β}{y:β}(h:x.bind f=some y):∃a,x=some a/\f a=some y:=by
 cases x with
 |none=>cases h
 |some a=>exact⟨a,rfl,h⟩
def mY{α β:Type}{x:Option α}{f:α->β}{y:β}(h:x.map f=some y):∃a,x=some a/\f a=y:=by
 cases x with
 |none=>cases h
 |some a=>exact⟨a,rfl,by simpa using h⟩
def DG{a:Operand->Option V}(c:∀o x,a o=some x->GV g h w x (ρ o)){x:Option Operand}{y:Option V}(b:Gd a x=some y):BV g h w y (x.map ρ):=by
 cases x with
 |none=>cases b;exact .none
 |some o=>
  obtain⟨v,d,rfl⟩:=mY b;exact .some _ _ (c o v d)
def wV{L:gI}(j:dN P L)(D:Rel g h w){R:Operand->Option V}(B:∀o x,R o=some x->GV g h w x (ρ o))
 {n:Nat}(hq:g.U n=false)(Q:g.U (n+1)=false){mu:Bool}(E:cM L R h n mu o.op=some out):Step P g h w n out ((execOp ρ o).run P w):=by
 unfold cM at E;split at E;case h_1 x hop=>obtain⟨v,m,rfl⟩:=mY E;exact Step.gG (s:=pure (ρ x)) D rfl (B _ _ m) (by rw[execOp,hop];rfl)
 case h_2 x hop=>obtain⟨v,m,rfl⟩:=mY E;exact Step.gG (s:=pure (ρ x)) D rfl (B _ _ m) (by rw[execOp,hop];rfl)
 case h_3 c a b hop=>
  obtain⟨W,m,A⟩:=gd E;obtain⟨x,C,rfl⟩:=mY A;obtain⟨v,I,F⟩:=Qx (P:=P) C (B _ _ m) (fun y M=>B _ _ M) (fun y M=>B _ _ M);exact⟨v,w,g,.inl (by rw[execOp,hop];exact I),F,D,Ext.refl _ _ _,fun k N=>.inl N⟩
 case h_4 e hop=>exact Step.vG (NN j D hq E) (by rw[execOp,hop])
 case h_5 e x hop=>obtain⟨v,m,A⟩:=gd E;exact Step.vG (UE (elem:=e) D hq (B _ _ m) A) (by rw[execOp,hop])
 case h_6 t ps hop=>obtain⟨x,m,rfl⟩:=mY E;obtain⟨u,A,C⟩:=NM (P:=P) j B m;exact Step.gG D A C (by rw[execOp,hop])
 case h_7 t len ps hop=>exact Step.vG (yu j D hq B E) (by rw[execOp,hop])
 case h_8 t a hop=>obtain⟨O,m,A⟩:=gd E;obtain⟨x,C,rfl⟩:=mY A;obtain⟨u,I,F⟩:=FQ (P:=P) j D C (B _ _ m);exact Step.gG D I F (by rw[execOp,hop])
 case h_9 t a x hop=>
  obtain⟨O,m,A⟩:=gd E;obtain⟨J,C,I⟩:=gd A;obtain⟨X,Y,Z,b3,b4,b5⟩:=NO (P:=P) j D I (B _ _ m) (B _ _ C);refine⟨undef,X,g,.inr ⟨?_,rfl⟩,?_,Z,b3,fun k N=>.inl N⟩
  .rw[execOp,hop];simp only[aB,Y];rfl
  .rw[b5];exact .tu [] [] rfl GL.nil.at_
 case h_10 x hop=>
  obtain⟨v,m,A⟩:=gd E;obtain⟨y,C,rfl⟩:=mY A;have K:=B _ _ m;refine⟨ρ x,w,g,.inl ?_,?_,D,Ext.refl _ _ _,fun k N=>.inl N⟩
  .rw[execOp,hop];unfold rB at C;split at C
   .obtain⟨_,b,sz,_,e⟩:=K.sB;simp only[e];rfl
   .obtain⟨b,am,c,t,fz,e,_⟩:=K.cG.FP;simp only[e];rfl
   .next fn a b=>
    have:∃p q,ρ x=.func fn p q:=by
     generalize ρ x=r at K;cases K;exact⟨_,_,rfl⟩
    obtain⟨p,q,e⟩:=this;cases fn<;>first|(cases C;done)|(simp only[e];rfl)
   .next fn a b=>
    have:∃p q,ρ x=.func fn p q:=by
     generalize ρ x=r at K;have hd:=K.cG;cases hd;exact⟨_,_,rfl⟩
    obtain⟨p,q,e⟩:=this;cases fn<;>first|(cases C;done)|(simp only[e];rfl)
   .cases C
  .have:y=v:=by
    unfold rB at C;split at C
    .cases C;rfl
    .cases C;rfl
    .split at C<;>cases C;rfl
    .split at C<;>cases C;rfl
    .cases C
   rw[this];exact K
 case h_11 op t x y _ hop=>
  obtain⟨J,m,A⟩:=gd E;obtain⟨y',C,I⟩:=gd A;obtain⟨z,F,rfl⟩:=mY I;obtain⟨r,G,H⟩:=Qt (P:=P) j F (B _ _ m) (B _ _ C) x y;exact Step.gG D G H (by rw[execOp,hop])
 case h_12 op t x hop=>obtain⟨J,m,A⟩:=gd E;obtain⟨z,F,rfl⟩:=mY A;obtain⟨r,G,H⟩:=X9 (P:=P) F (B _ _ m);exact Step.gG D G H (by rw[execOp,hop])
 case h_13 s d x hop=>
  obtain⟨J,m,A⟩:=gd E;split at A
  .next y M=>cases A;obtain⟨r,G,H⟩:=QB (P:=P) j M (B _ _ m);exact Step.gG D G H (by rw[execOp,hop])
  .exact Step.vG (Bh j D hq A (B _ _ m)) (by rw[execOp,hop])
 case h_14 fn a b hop=>
  obtain⟨O,m,A⟩:=gd E;obtain⟨b',C,rfl⟩:=mY A;have S:=qh B m;have T:=qh B C;refine Step.gG (s:=Instr.makeFunc fn (a.map ρ) (b.map ρ)) D rfl ?_ (by rw[execOp,hop]);have:=(GV.f (g:=g) (h:=h) (w:=w) fn O b' _ _ S.len T.len S.at_ T.at_).mr;rwa[<-LJ,<-LJ,abi,abi]at this
 case h_15 t l c hop=>obtain⟨l',m,A⟩:=gd E;obtain⟨W,C,I⟩:=gd A;exact Step.vG (Bf j D hq I (B _ _ m) (B _ _ C)) (by rw[execOp,hop])
 case h_16 t x lo hi hop=>
  obtain⟨J,m,A⟩:=gd E;obtain⟨a5,C,I⟩:=gd A;obtain⟨a9,F,G⟩:=gd I;obtain⟨z,H,rfl⟩:=mY G;obtain⟨r,h8,h9⟩:=NL (P:=P) j D H (B _ _ m) (DG B C) (DG B F);exact Step.gG D h8 h9 (by rw[execOp,hop];rfl)
 case h_17 s x f hop=>obtain⟨J,m,A⟩:=gd E;obtain⟨z,F,rfl⟩:=mY A;obtain⟨r,G,H⟩:=Jy (P:=P) j F (B _ _ m);exact Step.gG D G H (by rw[execOp,hop])
 case h_18 s x f hop=>obtain⟨J,m,A⟩:=gd E;obtain⟨z,F,rfl⟩:=mY A;obtain⟨r,G,H⟩:=NJ (P:=P) j F (B _ _ m);exact Step.gG D G H (by rw[execOp,hop])
 case h_19 t x i hop=>obtain⟨J,m,A⟩:=gd E;obtain⟨i',C,I⟩:=gd A;obtain⟨z,F,rfl⟩:=mY I;obtain⟨r,G,H⟩:=Jz (P:=P) j D F (B _ _ m) (B _ _ C);exact Step.gG D G H (by rw[execOp,hop])
 case h_20 t x i hop=>obtain⟨J,m,A⟩:=gd E;obtain⟨i',C,I⟩:=gd A;obtain⟨z,F,rfl⟩:=mY I;obtain⟨r,G,H⟩:=JA (P:=P) j F (B _ _ m) (B _ _ C);exact Step.gG D G H (by rw[execOp,hop])
 case h_21 t x hop=>obtain⟨J,m,A⟩:=gd E;exact Step.vG (NQ j D hq A (B _ _ m)) (by rw[execOp,hop])
 case h_22 x s hop=>obtain⟨J,m,A⟩:=gd E;exact Step.vG (QK D A (B _ _ m) o.type) (by rw[execOp,hop])
 case h_23 x i hop=>obtain⟨J,m,A⟩:=gd E;obtain⟨z,F,rfl⟩:=mY A;obtain⟨r,G,H⟩:=FR (P:=P) F (B _ _ m);exact Step.gG D G H (by rw[execOp,hop])
 case h_24 x t ts hop=>
  obtain⟨J,m,A⟩:=gd E;obtain⟨z,F,rfl⟩:=mY A;obtain⟨r,G,H⟩:=UC (P:=P) j F (B _ _ m) ⟨t::ts⟩ o.type rfl;exact Step.gG D G H (by rw[execOp,hop];simp[resolve,invoke,builtin])
 case h_25 xs ats hop=>
  obtain⟨J,m,A⟩:=gd E;obtain⟨z,F,rfl⟩:=mY A;obtain⟨r,G,H⟩:=Qz (P:=P) F (qh B m) ats o.type;exact Step.gG D G H (by rw[execOp,hop];simp[resolve,invoke,builtin])
 case h_26 xs ats hop=>
  obtain⟨J,m,A⟩:=gd E;obtain⟨z,F,rfl⟩:=mY A;obtain⟨r,G,H⟩:=QA (P:=P) F (qh B m) ats o.type;exact Step.gG D G H (by rw[execOp,hop];simp[resolve,invoke,builtin])
 case h_27 a x t tx hop=>
  obtain⟨O,m,A⟩:=gd E;obtain⟨J,C,I⟩:=gd A;exact Step.vG (JC (ty:=o.type) j D hq Q I (B _ _ m) (B _ _ C)) (by rw[execOp,hop];simp[resolve,invoke,builtin])
 case h_28=>cases E
end
section
variable[de]
structure St where
 e:Nat->Option V
 h:bw
 n:Nat
def yA(v:Value):Option V:=match NF v with
 |some d=>some (.d d)
 |none=>match v with
  |.agg b=>(Dr b.toList).map .a
  |_=>none
def St.ev(s:St):Operand->Option V
 |.tmp t=>s.e t
 |.const v=>yA v
 |.func f=>some (.d (.f (.func f) [] []))
 |.global k=>(de.G k).map fun p=>.d (.q p.1 p.2 0 0)
structure Sat(m:Nat)(s:St)(g:Gh)(a:Act)(w:World):Prop where
 rel:Rel g s.h w
 new:∀k,s.n<=k->g.U k=false
 env:∀i x,s.e i=some x->GV g s.h w x (a.tmps.getD i undef)
 size:a.tmps.size=m
 NR:a.defers=[]
def BS(c:yA v=some x):GV g h w x v:=by
 unfold yA at c;split at c
 .next d l=>cases c;exact .d _ _ (Dt l)
 .cases v with
  |agg j=>
   obtain⟨e,m,rfl⟩:=mY c;obtain⟨n,o⟩:=mq m;have b:∀(i:Nat) x v,e[i]? =some x->j.toList[i]? =some v->RD g.F w x v:=fun i x v p f=>Dt (o i v x f p);have:=GV.a (g:=g) (h:=h) (w:=w) e j.toList n.symm (fun v f=>by
    obtain⟨i,k⟩:=List.getElem?_of_mem f;have q:=(List.getElem?_eq_some_iff.1 k).1;exact(b i e[i] v (List.getElem?_eq_getElem (by omega)) k).one) b
   simpa using this
  |_=>cases c
def Sat.ev{m:Nat}{s:St}{g:Gh}{a:Act}{w:World}(A:Sat m s g a w):∀o x,s.ev o=some x->GV g s.h w x (a.eval o):=by
 intro o x h;cases o with
 |tmp t=>exact A.env t x h
 |const v=>exact BS h
 |func f=>
  cases h;exact .d _ _ (.f _ [] [] [] [] rfl rfl (fun i d v h=>by simp at h) (fun i d v h=>by simp at h))
 |global k=>
  obtain⟨⟨sz,j⟩,B,C⟩:=mY h;subst C;exact .d _ _ (A.rel.lO k sz j B)
def ly(e:Nat->Option V)(d:Option Tmp)(x:V):Nat->Option V:=match d with
 |some d=>up e d (some x)
 |none=>e
def tW{a:Act}{d:Option Tmp}(i:Nat)(b:∀k,d=some k->k<a.tmps.size):(a.put d v).tmps.getD i undef=if d=some i then v else a.tmps.getD i undef:=by
 cases d with
 |none=>simp[Act.put]
 |some k=>
  have c:=b k rfl;simp only[Act.put,aK];by_cases e:k=i
  .subst e;rw[aS rfl];simp[Array.getD,c]
  .rw[aI e];simp only[dh,dc,aI e]
def Sat.put{m:Nat}{s:St}{g g':Gh}{a:Act}{w w':World}(A:Sat m s g a w){h':bw}{n':Nat}{x:V}{v:Value}{d:Option Tmp}(C:∀k,d=some k->k<m)(D:GV g' h' w' x v)(E:Rel g' h' w')(B:Ext g s.h w g' h' w')
 (H:∀k,n'<=k->g'.U k=false):Sat m ⟨ly s.e d x,h',n'⟩ g' (a.put d v) w' where
 rel:=E
 new:=H
 env:=fun i y j=>by
  rw[tW i (by rw[A.size];exact C)];cases d with
  |none=>rw[aI (by simp)];exact(A.env i y j).ext B
  |some k=>
   simp only[ly,gJ]at j;by_cases e:i=k
   .subst e;rw[aS rfl]at j;cases j;rw[aS rfl];exact D
   .rw[aI e]at j;rw[aI (by simp;exact Ne.symm e)];exact(A.env i y j).ext B
 size:=by cases d<;>simp[Act.put,A.size]
 NR:=by cases d<;>simp[Act.put,A.NR]
def mz(P:Program)(m:Nat)(o:Oper)(s:St)(K:St->Prop):Prop:=
 ∀g a w,Sat m s g a w->o.wp P a w (fun c d=>∃v b e,c=a.put o.dst v/\K b/\Sat m b e c d/\Ext g s.h w e b.h d) (fun _ _ _=>False)
def iz(m:Nat)(o:Oper):Bool:=match o.dst with
 |some d=>Nat.blt d m
 |none=>true
def jd(h:iz m o=true):∀k,o.dst=some k->k<m:=by
 intro k a;unfold iz at h;rw[a]at h;simpa using h
def mz.Ge{B:gI}(C:dN P B){s:St}{K:St->Prop}(L:Bool)(M:iz m o=true)(N:cM B s.ev s.h s.n L o.op=some out)
 (H:K ⟨ly s.e o.dst out.x,ft s.h out.us,max s.n out.n⟩):mz P m o s K:=by
 intro g a w j;obtain⟨v,V,E,D,O,Q,I,R⟩:=wV C j.rel j.ev (j.new s.n (Nat.le_refl _)) (j.new (s.n+1) (Nat.le_succ _)) N;have S:∀k,max s.n out.n<=k->E.U k=false:=fun k H=>by
  cases T:E.U k with
  |false=>rfl
  |true=>
   rcases R k T with J|J
   .rw[j.new k (by omega)]at J;cases J
   .omega
 have A:=j.put (d:=o.dst) (jd M) O Q I S;unfold Oper.wp;rcases D with D|⟨D,rfl⟩
 .rw[D];exact⟨v,_,E,rfl,H,A,I⟩
 .rw[D];exact⟨undef,_,E,rfl,H,A,I⟩
def DH(s:St)(c:Array Oper)(o:Oper):Option Bool:=
 match o.guard with
 |none=>some true
 |some (j,a)=>match(c[j]?).bind (·.dst)with
  |some d=>match s.e d with
   |some (.d (.b x))=>some (x==a)
   |some (.tu [])=>some false
   |_=>none
  |none=>none
def Yc{s:St}{a:Act}(l:Sat m s g a w){c:Array Oper}{r:Bool}(e:DH s c o=some r):Region.wanted o (yielded c a.tmps)=r:=by
 unfold DH at e;unfold Region.wanted;split at e
 .next h=>cases e;rw[h]
 .next j f h=>
  rw[h];simp only;split at e
  .next d n=>
   split at e
   .next x k=>
    cases e;have i:=(l.env d _ k).cG;have:yielded c a.tmps j=some x:=by
     unfold yielded;rw[n];have b:a.tmps.getD d undef=x:=by
      generalize a.tmps.getD d undef=q at i|-;cases i;rfl
     simp only[dh]at b;cases hq:a.tmps[d]? with
     |none=>rw[hq]at b;cases b
     |some v=>rw[hq]at b;simp at b;subst b;simp[hq]
    rw[this];cases x<;>cases f<;>rfl
   .next k=>
    cases e;have i:=l.env d _ k;have:yielded c a.tmps j=none:=by
     unfold yielded;rw[n];have b:a.tmps.getD d undef=.tuple #[]:=by
      generalize a.tmps.getD d undef=q at i|-;cases i with
      |tu _ p t k=>
       have:p=[]:=List.eq_nil_of_length_eq_zero (by simpa using t);rw[this]
     simp only[dh]at b;cases hq:a.tmps[d]? with
     |none=>simp[hq]
     |some v=>rw[hq]at b;simp at b;subst b;simp[hq]
    rw[this];rfl
   .cases e
  .cases e
def RO(P:Program)(m:Nat)(a:Array Oper):List Oper->(St->Prop)->St->Prop
 |[],Q,s=>Q s
 |o::r,Q,s=>match DH s a o with
  |some true=>mz P m o s (RO P m a r Q)
  |some false=>RO P m a r Q ⟨ly s.e o.dst (.tu []),s.h,s.n⟩
  |none=>False
def sS(a:List Oper)(i:Nat):Bool:=a.any fun o=>match o.dst with
 |some d=>Nat.beq d i
 |none=>false
def writes:Code->Nat->Bool
 |.region _ c _,i=>sS c.toList i
 |.seq a b,i=>writes a i||writes b i
 |.cond _ a b,i=>writes a i||writes b i
 |.block _ a,i=>writes a i
 |.loop a,i=>writes a i
 |.scope a,i=>writes a i
 |.rangeFunc _ _ _ _,_=>true
 |_,_=>false
def W(P:Program)(m:Nat)(c:Code)(Q:Exit->St->Prop)(s:St):Prop:=
 ∀g a w,Sat m s g a w->c.wp P (fun x d e=>∃b f,Q x b/\Sat m b f d e/\Ext g s.h w f b.h e/\∀i,writes c i=false->d.tmps.getD i undef=a.tmps.getD i undef) a w
end
section
variable[de]
section
variable{P:Program}{m:Nat}{Q:Exit->St->Prop}{s:St}
def sT{a:Act}{K g:Act->World->Prop}{j:Exit->Act->World->Prop}(h:o.wp P a w K (fun _ _ _=>False))(d:∀a w,K a w->g a w):o.wp P a w g j:=by
 unfold Oper.wp at h|-;cases i:(execOp a.eval o).run P w with
 |halt b k=>
  rw[i]at h;cases b<;>exact h.elim
 |ok nx k=>
  rw[i]at h;cases nx<;>try exact h.elim
  .exact d _ _ h
  .exact d _ _ h
  .refine Calls.mono h fun e f b=>?_;cases e with
   |returned v=>exact d _ _ b
   |panicked c=>exact b.elim
   |outgrown=>obtain⟨a,w,l⟩:=b;exact l.elim
  .exact d _ _ h
  .exact Rows.mono h fun v f b=>d _ _ b
def mz.mono{K j:St->Prop}(h:mz P m o s K)(A:∀s,K s->j s):mz P m o s j:=by
 intro g a w B;exact sT (h g a w B) fun L M ⟨v,C,D,E,H,I,J⟩=>⟨v,C,D,E,A _ H,I,J⟩
def nP{r:List Oper}(h:sS (o::r) i=false):o.dst≠some i/\sS r i=false:=by
 simp only[sS,List.any_cons,oE]at h;refine⟨fun e=>?_,h.2⟩;rw[e]at h;simp at h
def JD(e:Array Oper)(id:Nat)(N:Bool):∀(l:List Nat) (r:List Oper) (s:St) (g:Gh) (a:Act) (w:World) (z:Gh) (A:bw) (B:Act) (C:World),
 (∀j:Nat,r[j]? =(l[j]?).bind (e[·]?))->l.length=r.length->(r.all (iz m))=true->RO P m e r (Q .normal) s->Sat m s g a w->Ext z A C g s.h w->
 (∀i,sS e.toList i=false->a.tmps.getD i undef=B.tmps.getD i undef)->(∀i,sS e.toList i=false->sS r i=false)->
 wpOps P e (fun x O G=>∃H I,Q x H/\Sat m H I O G/\Ext z A C I H.h G/\∀i,writes (.region id e N) i=false->O.tmps.getD i undef=B.tmps.getD i undef) l a w
 |[],r,s,g,a,w,z,A,B,C,M,E,F,f,c,k,q,p=>by
  have:r=[]:=List.eq_nil_of_length_eq_zero E.symm;subst this;exact⟨s,g,f,c,k,q⟩
 |i::l,[],s,g,a,w,z,A,B,C,M,E,F,f,c,k,q,p=>by simp at E
 |i::l,o::r,s,g,a,w,z,A,B,C,M,E,F,f,c,k,q,p=>by
  have R:e[i]? =some o:=by have:=M 0;simpa using this.symm
  have J:∀j:Nat,r[j]? =(l[j]?).bind (e[·]?):=fun j=>by have:=M (j+1);simpa using this
  have K:iz m o=true:=by simp only[iW,ax]at F;exact F.1
  have L:(r.all (iz m))=true:=by simp only[iW,ax]at F;exact F.2
  unfold wpOps;rw[R];simp only;unfold RO at f;cases u:DH s e o with
  |none=>rw[u]at f;exact f.elim
  |some b=>
   rw[Yc c u];have y:∀(v:Value) (j:Nat),sS e.toList j=false->(a.put o.dst v).tmps.getD j undef=a.tmps.getD j undef:=fun v j t=>by
    rw[tW j (by rw[c.size];exact jd K),if_neg (nP (p j t)).1]
   cases b with
   |true=>
    rw[u]at f;simp only[iu];left;refine sT (f g a w c) fun O G ⟨v,H,I,S,T,U,V⟩=>?_;subst S;exact JD e id N l r H I _ G z A B C J (by simpa using E) L T U (k.trans V) (fun j t=>(y v j t).trans (q j t)) (fun j t=>(nP (p j t)).2)
   |false=>
    rw[u]at f;simp only[ed,mU];have D:=c.put (g':=g) (h':=s.h) (w':=w) (n':=s.n) (x:=.tu []) (v:=undef) (d:=o.dst) (jd K) (.tu [] [] rfl GL.nil.at_) c.rel (Ext.refl _ _ _) c.new;exact JD e id N l r _ g _ w z A B C J (by simpa using E) L f D k (fun j t=>(y undef j t).trans (q j t)) (fun j t=>(nP (p j t)).2)
def QL{id:Nat}{b:Array Oper}(d:(b.toList.all (iz m))=true)(h:RO P m b b.toList (Q .normal) s):W P m (.region id b false) Q s:=by
 intro g a w e;refine wp_region ?_;refine JD b id false (List.range b.size) b.toList s g a w g s.h a w (fun j=>?_) (by simp) d h e (Ext.refl _ _ _) (fun _ _=>rfl) (fun _ h=>h);rw[az];by_cases c:j<b.size
 .simp[c]
 .simp[c]
def W.mono{c:Code}{j:Exit->St->Prop}(h:W P m c Q s)(hq:∀x s,Q x s->j x s):W P m c j s:=
 fun g a w A=>wp_mono (h g a w A) fun x H I ⟨B,C,D,E⟩=>⟨B,C,hq _ _ D,E⟩
def Yd(h:Q .normal s):W P m .skip Q s:=fun g a w b=>wp_skip ⟨s,g,h,b,Ext.refl _ _ _,fun _ _=>rfl⟩
def UG(h:Q .normal s):W P m (.label l) Q s:=fun g a w b=>wp_label ⟨s,g,h,b,Ext.refl _ _ _,fun _ _=>rfl⟩
def Ye(h:Q (.exit l) s):W P m (.exit l) Q s:=fun g a w b=>wp_exit ⟨s,g,h,b,Ext.refl _ _ _,fun _ _=>rfl⟩
def Yf(h:Q (.goto l) s):W P m (.goto l) Q s:=fun g a w b=>wp_goto ⟨s,g,h,b,Ext.refl _ _ _,fun _ _=>rfl⟩
def aam(h:Q .ret s):W P m .ret Q s:=fun g a w b=>wp_ret ⟨s,g,h,b,Ext.refl _ _ _,fun _ _=>rfl⟩
@[reducible] def nx(K:St->Prop)(Q:Exit->St->Prop):Exit->St->Prop
 |.normal,s=>K s
 |x,s=>Q x s
def XA{x y:Code}(h:W P m x (nx (W P m y Q) Q) s):W P m (.seq x y) Q s:=by
 intro g a w p;refine wp_seq (ma (h g a w p) fun e q r ⟨t,j,k,l,n,o⟩=>?_);have c:∀i,writes (.seq x y) i=false->writes x i=false/\writes y i=false:=fun i b=>by simpa[writes]using b
 cases e with
 |normal=>
  refine ma (k j q r l) fun e u v ⟨d,f,z,A,B,C⟩=>⟨d,f,z,A,n.trans B,fun i b=>(C i (c i b).2).trans (o i (c i b).1)⟩
 |_=>exact⟨t,j,k,l,n,fun i b=>o i (c i b).1⟩
def QM{c:Operand}{x y:Code}{t:Bool}(u:s.ev c=some (.d (.b t)))(v:t=true->W P m x Q s)(z:t=false->W P m y Q s):W P m (.cond c x y) Q s:=by
 intro g a w h;have A:a.eval c=t:=by
  have:=(h.ev c _ u).cG;generalize a.eval c=q at this|-;cases this;rfl
 have r:∀i,writes (.cond c x y) i=false->writes x i=false/\writes y i=false:=fun i f=>by simpa[writes]using f
 refine wp_cond A ?_;cases t with
 |true=>exact ma (v rfl g a w h) fun e B C ⟨j,k,l,n,o,p⟩=>⟨j,k,l,n,o,fun i f=>p i (r i f).1⟩
 |false=>exact ma (z rfl g a w h) fun e B C ⟨j,k,l,n,o,p⟩=>⟨j,k,l,n,o,fun i f=>p i (r i f).2⟩
@[reducible] def inB(id:Nat)(Q:Exit->St->Prop):Exit->St->Prop
 |.exit k,s=>if k=id then Q .normal s else Q (.exit k) s
 |x,s=>Q x s
def DI{id:Nat}{c:Code}(h:W P m c (inB id Q) s):W P m (.block id c) Q s:=by
 intro g a w n;refine wp_block (ma (h g a w n) fun e o p ⟨d,f,b,i,j,l⟩=>?_);cases e with
 |exit k=>
  simp only[inB]at b;simp only[Exit.inBlock];split
  .next e=>rw[aS e]at b;exact⟨d,f,b,i,j,l⟩
  .next e=>rw[aI e]at b;exact⟨d,f,b,i,j,l⟩
 |_=>exact⟨d,f,b,i,j,l⟩
end
end
section
variable[de]
def yB(tab:gI)(s:St):List ResultVar->Option (List V)
 |[]=>some []
 |.tmp t::r=>match s.e t,yB tab s r with
  |some x,some l=>some (x::l)
  |_,_=>none
 |.cell a t::r=>match(s.e a).bind (nO tab s.h t),yB tab s r with
  |some x,some l=>some (x::l)
  |_,_=>none
def NS(tab:gI)(s:St)(a:List ResultVar):Option V:=
 match yB tab s a with
 |some [x]=>some x
 |some l=>some (.tu l)
 |none=>none
def AC(P:Program)(f:FuncId)(args:List V)(h:bw)(n:Nat)(K:V->bw->Nat->Prop):Prop:=
 ∀g w d,Rel g h w->(∀k,n<=k->g.U k=false)->GL g h w args d->
  Calls P f d.toArray w fun e c=>∃r x a i b,e=.returned r/\K x a i/\GV b a c x r/\Rel b a c/\(∀k,i<=k->b.U k=false)/\Ext g h w b a c
def sU(b:Array Value):ResultVar->Sem Value
 |.tmp t=>pure (b.getD t undef)
 |.cell a t=>do loadVar t (<-asAddr (b.getD a undef))
def JE(fn:Func)(b:Array Value):results fn b=(do let c<-fn.results.mapM (sU b);pure (if h:c.size=1 then c[0]else .tuple c)):=by
 unfold results;have:(fun x:ResultVar=>match x with
  |.tmp t=>pure (b.getD t undef)
  |.cell a t=>do loadVar t (<-asAddr (b.getD a undef)):ResultVar->Sem Value)=sU b:=by
  funext r;cases r<;>rfl
 rw[<-this];rfl
section
variable{P:Program}{tab:gI}
def AC.mono{f:FuncId}{args:List V}{h:bw}{n:Nat}{K j:V->bw->Nat->Prop}(a:AC P f args h n K)(A:∀x h n,K x h n->j x h n):AC P f args h n j:=
 fun g w B C D E=>(a g w B C D E).mono fun e O ⟨r,x,H,I,J,L,M,N⟩=>⟨r,x,H,I,J,L,A _ _ _ M,N⟩
def yC(d:dN P tab){m:Nat}{s:St}{g:Gh}{a:Act}{w:World}(e:Sat m s g a w):∀{z:List ResultVar} {f:List V},yB tab s z=some f->
 ∃i:List Value,(z.mapM (sU a.tmps):Sem (List Value)).run P w=.ok i w/\GL g s.h w f i
 |[],f,h=>by cases h;exact⟨[],rfl,GL.nil⟩
 |.tmp t::r,f,h=>by
  unfold yB at h;split at h
  .next x l j k=>
   cases h;obtain⟨i,n,o⟩:=yC d e k;refine⟨_,?_,GL.cons (e.env t x j) o⟩;simp only[rf,sU,aB,cH,aq,n]
  .cases h
 |.cell b t::r,f,h=>by
  unfold yB at h;split at h
  .next x l j k=>
   cases h;obtain⟨y,A,p⟩:=gd j;obtain⟨i,n,o⟩:=yC d e k;obtain⟨u,D,E⟩:=FQ (P:=P) d e.rel p (e.env b y A);have B:(do loadVar t (<-asAddr (a.tmps.getD b undef)):Sem Value).run P w=.ok u w:=by
    rw[<-D];have v:=e.env b y A;generalize a.tmps.getD b undef=q at v|-;unfold nO at p;obtain⟨H,_,C⟩:=gd p;split at C
    .obtain⟨_,F,sz,_,rfl⟩:=v.sB;rfl
    .obtain⟨F,G,c,I,J,rfl,_⟩:=v.cG.FP;rfl
    .cases C
   refine⟨_,?_,GL.cons E o⟩;simp only[rf,sU,aB]at B|-;rw[B];simp only[cH,aq,n]
  .cases h
def Gf(j:dN P tab){s:St}{a:Act}(u:Sat m s g a w){fn:Func}(f:NS tab s fn.results.toList=some x):∃v,(results fn a.tmps).run P w=.ok v w/\GV g s.h w x v:=by
 unfold NS at f;cases n:yB tab s fn.results.toList with
 |none=>rw[n]at f;cases f
 |some z=>
  rw[n]at f;obtain⟨k,d,i⟩:=yC (P:=P) j u n;have o:(fn.results.mapM (sU a.tmps):Sem (Array Value)).run P w=.ok k.toArray w:=by
   rw[<-adk]at d;generalize (fn.results.mapM (sU a.tmps):Sem (Array Value))=q at d|-;have A:(Functor.map Array.toList q:Sem (List Value))=q.bind fun a=>pure a.toList:=rfl;rw[A]at d;have B:(q.bind fun a=>pure a.toList:Sem (List Value)).run P w=(q.run P w).andThen fun a p=>.ok a.toList p:=Sem.run_bind' P q _ w;rw[B]at d;cases hq:q.run P w with
   |ok b p=>rw[hq]at d;simp only[aq,Result.ok.injEq]at d;rw[<-d.1,d.2]
   |halt b p=>rw[hq]at d;cases d
  rw[JE];simp only[aB];rw[o];simp only[aq];have e:=i.len;split at f
  .next y c=>
   cases f;simp only[aK]at c;subst c
   match k,e,i with
   |[v],_,i=>exact⟨v,rfl,i.at_ 0 _ v rfl rfl⟩
  .next l r c=>
   cases f;simp only[aK]at c;subst c;have t:¬k.toArray.size=1:=by
    intro h;simp only[bj]at h;rw[e]at h
    match z,h with
    |[y],_=>exact r y rfl
   refine⟨.tuple k.toArray,?_,.tu _ _ i.len i.at_⟩;rw[dif_neg t];rfl
  .rename_i c;cases c
def UH(b:dN P tab){fn:Func}{c:Code}(A:P.funcs[f]? =some fn)(B:fn.body=some c){n:Nat}{K:V->bw->Nat->Prop}(o:args.length<=fn.ntmps)
 (C:W P fn.ntmps c (fun x s=>(x=.normal\/x=.ret)/\∃r,NS tab s fn.results.toList=some r/\K r s.h s.n) ⟨fun i=>args[i]?,h,n⟩):AC P f args h n K:=by
 intro g w e D E p;refine calls_of_wp A B ?_;have d:Sat fn.ntmps ⟨fun i=>args[i]?,h,n⟩ g {tmps:=e.toArray++Array.replicate (fn.ntmps-e.toArray.size) undef,defers:=[]} w:=by
  refine⟨D,E,fun i x F=>?_,?_,rfl⟩
  .obtain⟨v,j,l⟩:=p.get F;have m:=(List.getElem?_eq_some_iff.1 j).1;have:(e.toArray++Array.replicate (fn.ntmps-e.toArray.size) undef).getD i undef=v:=by
    rw[dh,<-az,gN,an m,j];rfl
   rw[this];exact l
  .simp only[jZ,bj,oD];rw[p.len];omega
 refine ma (C g _ w d) fun x G H ⟨k,q,⟨j,r,l,t⟩,a,u,_⟩=>?_;obtain⟨v,y,z⟩:=Gf (P:=P) b a l;rcases j with rfl|rfl
 .exact⟨a.NR,v,y,v,r,k.h,k.n,q,rfl,t,z,a.rel,a.new,u⟩
 .exact⟨a.NR,v,y,v,r,k.h,k.n,q,rfl,t,z,a.rel,a.new,u⟩
def callee(s:St)(x:Operand):Option (FuncId×List V×List V):=
 match s.ev x with
 |some (.d (.f (.func f) a b))=>some (f,a.map .d,b.map .d)
 |some (.f (.func f) a b)=>some (f,a,b)
 |_=>none
def JF{s:St}{K:St->Prop}(i:∀args w,(callFunc f args).run P w=.ok (.enter f args) w){x:Operand}{v:Array TypeId}
 (hop:o.op=.call ⟨.value x,c,v⟩)(M:iz m o=true){b:List V}(l:callee s x=some (f,a,b))(N:xu s.ev c.toList=some j)
 (y:AC P f (a++j++b) s.h s.n fun r I J=>K ⟨ly s.e o.dst r,I,J⟩):mz P m o s K:=by
 intro g d w k;have z:=qh k.ev N;have A:∃p q:List Value,d.eval x=.func (.func f) p.toArray q.toArray/\GL g s.h w a p/\GL g s.h w b q:=by
  unfold callee at l;split at l
  .next O Q R B=>
   cases l;have t:=(k.ev x _ B).cG;generalize d.eval x=q at t|-;cases t with
   |f _ _ _ j C D E F G=>exact⟨j,C,rfl,GL.Xx D F,GL.Xx E G⟩
  .next O Q R B=>
   cases l;have t:=k.ev x _ B;generalize d.eval x=q at t|-;cases t with
   |f _ _ _ j C D E F G=>exact⟨j,C,rfl,⟨D,F⟩,⟨E,G⟩⟩
  .cases l
 obtain⟨p,q,H,S,hq⟩:=A;have T:=y g w (p++c.toList.map d.eval++q) k.rel k.new ((S.append z).append hq);have u:(execOp d.eval o).run P w=.ok (.enter f (p++c.toList.map d.eval++q).toArray) w:=by
  unfold execOp;rw[hop];simp only[resolve,H,Deferred.ofValue,aB,cH,aq,invoke];rw[i]
  congr 2
  apply Fx;simp
 unfold Oper.wp;rw[u];refine Calls.mono T fun e w' ⟨r,x',I,J,U,W,X,Y,Z,k5,L⟩=>?_;subst W;exact⟨r,_,U,rfl,X,k.put (jd M) Y Z L k5,L⟩
end
end
section
variable[de]
section
variable{P:Program}{tab:gI}{m:Nat}{ops:Array Oper}{o:Oper}{r:List Oper}{Q:St->Prop}{s:St}
def Yg(h:Q s):RO P m ops [] Q s:=h
def abv(a:DH s ops o=some false)(b:RO P m ops r Q ⟨ly s.e o.dst (.tu []),s.h,s.n⟩):RO P m ops (o::r) Q s:=by
 unfold RO;rw[a];exact b
def abw(a:DH s ops o=some true)(b:mz P m o s (RO P m ops r Q)):RO P m ops (o::r) Q s:=by
 unfold RO;rw[a];exact b
end
end
section
variable[de]
mutual
def V.lt(n:Nat):V->Bool
 |.d _|.a _=>true
 |.p k _ _=>Nat.blt k n
 |.t k _ _ _=>Nat.blt k n
 |.v k _ _=>Nat.blt k n
 |.m k=>Nat.blt k n
 |.it k=>Nat.blt k n
 |.g l=>V.nk n l
 |.tu l=>V.nk n l
 |.f _ j A=>V.nk n j&&V.nk n A
def V.nk(n:Nat):List V->Bool
 |[]=>true
 |x::l=>V.lt n x&&V.nk n l
end
def V.kn{n:Nat}:∀{l:List V},V.nk n l=true->∀x∈l,V.lt n x=true
 |[],_,x,j=>by cases j
 |y::l,h,x,j=>by
  simp only[V.nk,ax]at h;rcases aw.1 j with rfl|j
  .exact h.1
  .exact V.kn h.2 x j
def dX.lt(n:Nat):dX->Prop
 |.row _ j _=>∀r∈j,V.nk n r=true
 |.map A=>∀e∈A,V.lt n e.1=true/\V.lt n e.2=true
 |_=>True
def Gh.cut(g:Gh)(n:Nat):Gh:={σ:=fun k=>if k<n then g.σ k else none,τ:=fun k=>if k<n then g.τ k else none,F:=g.F,U:=fun k=>g.U k&&decide (k<n)}
def GV.cut{g:Gh}{h h':bw}{w:World}{n:Nat}(Y:∀k m,k<n->h' k=some (.tok m)->h k=some (.tok m)){x:V}{v:Value}(Z:GV g h w x v)(A:x.lt n=true):GV (g.cut n) h' w x v:=by
 have J:∀k,g.U k=true->k<n->(g.cut n).U k=true:=fun k C L=>by simp[Gh.cut,C,L]
 have D:∀k,k<n->(g.cut n).σ k=g.σ k:=fun k h=>by simp[Gh.cut,h]
 have P:∀k,k<n->(g.cut n).τ k=g.τ k:=fun k h=>by simp[Gh.cut,h]
 induction Z with
 |d x v M=>exact .d x v M
 |p k i j b sz B H=>
  have A:k<n:=by simpa[V.lt]using A
  exact .p k i j b sz (J k B A) ((D k A).trans H)
 |t k e sz O v B M ht=>
  have A:k<n:=by simpa[V.lt]using A
  refine .t k e sz O v (J k B A) M fun m Q=>?_;have C:=ht m (Y k m A Q);refine⟨C.1,fun he=>?_⟩;cases C.2 he with
  |nil=>exact .nil _ _
  |full=>exact .full _ _
  |here b R n c W X g3=>exact .here b R n c ((P k A).trans W) X g3
 |vn k B H=>
  have A:k<n:=by simpa[V.lt]using A
  exact .vn k (J k B A) ((D k A).trans H)
 |ve k S a B=>
  have A:k<n:=by simpa[V.lt]using A
  exact .ve k S a (J k B A)
 |v k S m b sz cap c t fz B H hb hc Q=>
  have A:k<n:=by simpa[V.lt]using A
  exact .v k S m b sz cap c t fz (J k B A) ((D k A).trans H) hb hc Q
 |g cells N E T M ih=>
  have A:V.nk n cells=true:=by simpa[V.lt]using A
  exact .g cells N E T fun i x v C L=>ih i x v C L (V.kn A x (List.mem_of_getElem? C))
 |a cells N E T M=>exact .a cells N E T M
 |tu cells N E M ih=>
  have A:V.nk n cells=true:=by simpa[V.lt]using A
  exact .tu cells N E fun i x v C L=>ih i x v C L (V.kn A x (List.mem_of_getElem? C))
 |f fn first I N us C L W X i1 i2=>
  have A:V.nk n first=true/\V.nk n I=true:=by simpa[V.lt]using A
  exact .f fn first I N us C L (fun i x v a b=>i1 i x v a b (V.kn A.1 x (List.mem_of_getElem? a))) (fun i x v a b=>i2 i x v a b (V.kn A.2 x (List.mem_of_getElem? a)))
 |m k b sz B H=>
  have A:k<n:=by simpa[V.lt]using A
  exact .m k b sz (J k B A) ((D k A).trans H)
 |it k b sz B H=>
  have A:k<n:=by simpa[V.lt]using A
  exact .it k b sz (J k B A) ((D k A).trans H)
def jP.cut{g:Gh}{h h':bw}{w:World}{n k:Nat}{o:dX}(L:∀k m,k<n->h' k=some (.tok m)->h k=some (.tok m))(M:jP g h w k o)(R:k<n)(N:o.lt n):jP (g.cut n) h' w k o:=by
 have A:(g.cut n).σ k=g.σ k:=by simp[Gh.cut,R]
 cases M with
 |nilvec sz B=>exact .nilvec sz (A.trans B)
 |row sz D O b c t B E S T W X M J=>exact .row sz D O b c t (A.trans B) E S T W X M fun i r j x v C H Y=>(J i r j x v C H Y).cut L (V.kn (N r (List.mem_of_getElem? C)) x (List.mem_of_getElem? H))
 |tok m=>exact .tok m
 |it s pos b sz Z B E P=>exact .it s pos b sz Z (A.trans B) E P
 |map es b sz I clock B E Q J=>exact .map es b sz I clock (A.trans B) E Q fun i x e C H=>⟨(J i x e C H).1.cut L (N x (List.mem_of_getElem? C)).1,(J i x e C H).2.cut L (N x (List.mem_of_getElem? C)).2⟩
def Rel.cut{g:Gh}{h h':bw}{w:World}{n:Nat}(C:Rel g h w)(E:∀k o,h' k=some o->k<n/\h k=some o/\o.lt n):Rel (g.cut n) h' w:=by
 have A:∀k b,dJ (g.cut n) h' k=some b->dJ g h k=some b:=fun k b hb=>by
  cases D:h' k with
  |none=>unfold dJ at hb;rw[D]at hb;cases hb
  |some o=>
   obtain⟨H,J,N⟩:=E k o D;have L:(g.cut n).σ k=g.σ k:=by simp[Gh.cut,H]
   have M:(g.cut n).τ k=g.τ k:=by simp[Gh.cut,H]
   unfold dJ at hb|-;rw[D]at hb;rw[J];cases o<;>simp only[L,M]at hb|- <;>exact hb
 refine⟨C.lO,fun k O b a c=>C.inj k O b (A k b a) (A O b c),fun b ⟨k,hb⟩=>C.lt b ⟨k,?_⟩,C.fresh,fun k D=>?_,fun k o P=>?_⟩
 .rcases hb with⟨sz,hb⟩|hb
  .simp only[Gh.cut]at hb;split at hb
   .exact .inl ⟨sz,hb⟩
   .cases hb
  .simp only[Gh.cut]at hb;split at hb
   .exact .inr hb
   .cases hb
 .by_cases j:k<n
  .have Q:g.U k=false:=by simpa[Gh.cut,j]using D
   have I:=C.top k Q;refine⟨?_,by simp[Gh.cut,j,I.2.1],by simp[Gh.cut,j,I.2.2]⟩;cases B:h' k with
   |none=>rfl
   |some o=>rw[(E k o B).2.1]at I;cases I.1
  .refine⟨?_,by simp[Gh.cut,j],by simp[Gh.cut,j]⟩;cases B:h' k with
   |none=>rfl
   |some o=>exact absurd (E k o B).1 j
 .obtain⟨H,J,N⟩:=E k o P;exact(C.obj k o J).cut (fun k m D R=>(E k _ R).2.1) H N
def Ext.cut{C g:Gh}{E h h':bw}{H w:World}{n:Nat}(j:Ext C E H g h w)(B:∀k,C.U k=true->k<n)(J:∀k m,k<n->h' k=some (.tok m)->h k=some (.tok m)):Ext C E H (g.cut n) h' w where
 n:=fun k A=>by simp[Gh.cut,j.n k A,B k A]
 size:=j.size
 os:=j.os
 tape:=j.tape
 output:=j.output
 stays:=j.stays
 out:=j.out
 own:=fun b ⟨k,hb⟩=>j.own b ⟨k,by
  rcases hb with⟨sz,hb⟩|hb
  .simp only[Gh.cut]at hb;split at hb
   .exact .inl ⟨sz,hb⟩
   .cases hb
  .simp only[Gh.cut]at hb;split at hb
   .exact .inr hb
   .cases hb⟩
 sig:=fun k A=>by simp only[Gh.cut,aS (B k A)];exact j.sig k A
 tok:=fun k A I D=>by
  obtain⟨m,L,M⟩:=j.tok k A I (J k I (B k A) D);refine⟨m,L,?_⟩;simp only[Gh.cut,aS (B k A)];exact M
end
section
variable[de]
def tid:V->List Nat
 |.p k _ _=>[k]
 |.t k _ _ _=>[k]
 |.v k _ _=>[k]
 |.it k=>[k]
 |.m k=>[k]
 |_=>[]
section
variable{tab:gI}{h h':bw}
def Gg{a:V}(b:∀k∈tid a,h k=h' k):nO tab h t a=nO tab h' t a:=by
 cases a with
 |p k i j=>
  have:h k=h' k:=b k (by simp[tid]);simp only[nO,this]
 |d x=>cases x<;>rfl
 |_=>rfl
def DJ{n:Nat}{a:V}(b:∀k∈tid a,h k=h' k):sR tab h n t a x=sR tab h' n t a x:=by
 cases a with
 |p k i j=>
  have:h k=h' k:=b k (by simp[tid]);simp only[sR,this]
 |_=>rfl
def JG{op:BinOp}:Jt h tab op t x y=Jt h' tab op t x y:=rfl
def DK{a:V}(b:∀k∈tid x,h k=h' k):sO tab h t x a=sO tab h' t x a:=by
 cases x with
 |v k c n=>
  unfold sO;split
  .simp only[b k (by simp[tid])]
  .rfl
  .rfl
 |d x=>cases x<;>rfl
 |_=>rfl
def DL{a b:Option V}(c:∀k∈tid x,h k=h' k):sP tab h t x a b=sP tab h' t x a b:=by
 unfold sP;split;all_goals first|rfl|(rw[c _ (by simp[tid])])
def wW(a:∀k∈tid x,h k=h' k):jQ h size x=jQ h' size x:=by
 cases x with
 |v k b n=>
  have:h k=h' k:=a k (by simp[tid]);simp only[jQ,this]
 |d x=>cases x<;>rfl
 |_=>rfl
def Gi(a:∀k∈tid x,h k=h' k):nj h size x=nj h' size x:=by
 cases x with
 |v k b n=>
  have:h k=h' k:=a k (by simp[tid]);simp only[nj,this]
 |d x=>cases x<;>rfl
 |_=>rfl
def Bi{n:Nat}{b:Bool}{c:TypeId}{a:V}(d:∀k∈tid a,h k=h' k)(e:∀k∈tid x,h k=h' k):oN tab h n b t c a x=oN tab h' n b t c a x:=by
 have f:∀size,jQ h size x=jQ h' size x:=fun size=>wW e;have g:∀size,nj h size x=nj h' size x:=fun size=>Gi e;unfold oN;simp only[f,g];split
 .split
  .congr 1
   funext te
   split
   .rfl
   .rw[d _ (by simp[tid])]
   .rw[d _ (by simp[tid])]
   .rfl
  .rfl
 .rfl
def Gj{n:Nat}{src a:TypeId}(b:∀k∈tid x,h k=h' k):sC tab h n src a x=sC tab h' n src a x:=by
 have c:∀size,jQ h size x=jQ h' size x:=fun size=>wW b;unfold sC;simp only[c]
def Gl{n:Nat}{b:Bool}(a:∀k∈tid x,h k=h' k):yx h n x b=yx h' n x b:=by
 cases x with
 |it k=>
  have:h k=h' k:=a k (by simp[tid]);cases b<;>simp only[yx,this]
 |_=>rfl
def kP{ev ev':Operand->Option V}:∀{l:List Operand},(∀x∈l,ev x=ev' x)->xu ev l=xu ev' l
 |[],_=>rfl
 |x::l,a=>by
  unfold xu;rw[a x (by simp),kP fun y b=>a y (by simp[b])]
def oP{ev ev':Operand->Option V}:∀{l:List (Nat×Operand)},(∀x∈l,ev x.2=ev' x.2)->lR ev l=lR ev' l
 |[],_=>rfl
 |(i,x)::l,a=>by
  unfold lR;rw[a (i,x) (by simp),oP fun y b=>a y (by simp[b])]
def fE(op:Op):List Operand:=match op with
 |.load _ a=>[a]
 |.store _ a _=>[a]
 |.convert _ _ x=>[x]
 |.slice _ x _ _ _=>[x]
 |.indexAddr _ x _=>[x]
 |.next x _=>[x]
 |.call c=>c.args.toList
 |.lookup _ m _ _=>[m]
 |.mapUpdate _ m _ _=>[m]
 |.mapEntry _ m _=>[m]
 |.entryStore _ m _ _=>[m]
 |.binOp _ _ x (.const (.slice none _ _)) _=>[x]
 |_=>[]
def Gm{o g:Operand->Option V}{n:Nat}{D:Bool}(j:∀x∈op.operands,o x=g x)(E:∀x∈fE op,∀v,o x=some v->∀k∈tid v,h k=h' k):
 cM tab o h n D op=cM tab g h' n D op:=by
 have p:∀{x:Operand} {α:Type} {f z:V->Option α},x∈op.operands->x∈fE op->(∀v,(∀k∈tid v,h k=h' k)->f v=z v)->(o x).bind f=(g x).bind z:=by
  intro x α f z q F G;rw[<-j x q];cases r:o x with
  |none=>rfl
  |some v=>exact G v (E x F v r)
 cases op with
 |move x=>simp only[cM];rw[j x (by simp[Op.operands])]
 |assign x=>simp only[cM];rw[j x (by simp[Op.operands])]
 |pick c a b=>simp only[cM];rw[j c (by simp[Op.operands]),j a (by simp[Op.operands]),j b (by simp[Op.operands])]
 |alloc=>rfl
 |box e x=>simp only[cM];rw[j x (by simp[Op.operands])]
 |build t A=>
  simp only[cM,yq];have:=oP (ev:=o) (ev':=g) (l:=A.toList) fun x q=>j x.2 (by simp only[Op.operands,adr];exact aL.2 ⟨x,q,rfl⟩);rw[this]
 |buildSlice t len A=>
  simp only[cM,lx];have:=oP (ev:=o) (ev':=g) (l:=A.toList) fun x q=>j x.2 (by simp only[Op.operands,adr];exact aL.2 ⟨x,q,rfl⟩);rw[this]
 |load t a=>simp only[cM];exact p (by simp[Op.operands]) (by simp[fE]) fun v r=>by rw[Gg r]
 |store t a x=>simp only[cM];refine p (by simp[Op.operands]) (by simp[fE]) fun v r=>?_;rw[j x (by simp[Op.operands])];congr 1;funext y;exact DJ r
 |nilCheck x=>simp only[cM];rw[j x (by simp[Op.operands])]
 |binOp op t x y u=>simp only[cM];rw[j x (by simp[Op.operands]),j y (by simp[Op.operands])];rfl
 |unOp op t x=>simp only[cM];rw[j x (by simp[Op.operands])]
 |convert s d x=>simp only[cM];exact p (by simp[Op.operands]) (by simp[fE]) fun v r=>by rw[Gj r]
 |makeFunc fn a b=>
  simp only[cM];rw[kP (ev:=o) (ev':=g) (l:=a.toList) fun x q=>j x (by simp only[Op.operands,vw];exact .inl (abj.1 q)),kP (ev:=o) (ev':=g) (l:=b.toList) fun x q=>j x (by simp only[Op.operands,vw];exact .inr (abj.1 q))]
 |makeSlice t l c=>simp only[cM];rw[j l (by simp[Op.operands]),j c (by simp[Op.operands])]
 |slice t x B C mx=>
  cases mx with
  |some y=>rfl
  |none=>
   simp only[cM];refine p (by simp[Op.operands]) (by simp[fE]) fun v r=>?_;have H:Gd o B=Gd g B:=by
    cases B with
    |none=>rfl
    |some y=>simp only[Gd];rw[j y (by simp[Op.operands])]
   have I:Gd o C=Gd g C:=by
    cases C with
    |none=>rfl
    |some y=>simp only[Gd];rw[j y (by simp[Op.operands])]
   rw[H,I]
   congr 1;funext a;congr 1;funext b
   rw[DL r]
 |fieldAddr s x f=>simp only[cM];rw[j x (by simp[Op.operands])]
 |field t x f=>simp only[cM];rw[j x (by simp[Op.operands])]
 |indexAddr t x i=>simp only[cM];refine p (by simp[Op.operands]) (by simp[fE]) fun v r=>?_;rw[j i (by simp[Op.operands])];congr 1;funext y;rw[DK r]
 |index t x i=>simp only[cM];rw[j x (by simp[Op.operands]),j i (by simp[Op.operands])]
 |range t x=>simp only[cM];rw[j x (by simp[Op.operands])]
 |next x s=>simp only[cM];exact p (by simp[Op.operands]) (by simp[fE]) fun v r=>Gl r
 |extract x i=>simp only[cM];rw[j x (by simp[Op.operands])]
 |call c=>
  obtain⟨callee,⟨args⟩,⟨w⟩⟩:=c;have m:∀x∈args,x∈(Op.call ⟨callee,⟨args⟩,⟨w⟩⟩).operands:=fun x q=>by simp only[Op.operands,Call.operands,vw];exact .inr (by simpa using q)
  cases callee with
  |value f=>rfl
  |invoke f K=>rfl
  |builtin b=>
   cases b<;>try rfl
   ·
    match args,w with
    |[a,x],[t,L]=>
     simp only[cM];refine p (m a (by simp)) (by simp[fE]) fun v r=>p (m x (by simp)) (by simp[fE]) fun u J=>Bi r J
    |[],_=>rfl
    |[_],_=>rfl
    |_::_::_::_,_=>rfl
    |[_,_],[]=>rfl
    |[_,_],[_]=>rfl
    |[_,_],_::_::_::_=>rfl
   ·
    match args,w with
    |[x],t::_=>simp only[cM];rw[j x (m x (by simp))]
    |[],_=>rfl
    |_::_::_,_=>rfl
    |[_],[]=>rfl
   .simp only[cM];rw[kP (ev:=o) (ev':=g) fun x q=>j x (m x q)]
   .simp only[cM];rw[kP (ev:=o) (ev':=g) fun x q=>j x (m x q)]
 |_=>rfl
end
end
section
variable[de]
structure Tr where
 go:Bool
 x:V
 us:List (Nat×Option dX)
 lo:Nat
 hi:Nat
 rd:List Nat
structure It where
 i:Nat
 o:Oper
 t:Tr
def sV(ops:Array Oper)(o:Oper):List Nat:=
 (
  o.op.operands.toList.filterMap fun|.tmp t=>some t|_=>none)++match o.guard with
  |some (j,_)=>((ops[j]?).bind (·.dst)).toList
  |none=>[]
structure Sat0(m:Nat)(s:St)(g:Gh)(a:Act)(w:World):Prop where
 rel:Rel g s.h w
 env:∀i x,s.e i=some x->GV g s.h w x (a.tmps.getD i undef)
 size:a.tmps.size=m
 NR:a.defers=[]
def app(it:It)(s:St):St:=⟨ly s.e it.o.dst it.t.x,ft s.h it.t.us,s.n⟩
def Loc(P:Program)(m:Nat)(ops:Array Oper)(it:It)(s:St):Prop:=
 ∀b g a w,Sat0 m b g a w->(∀i∈sV ops it.o,b.e i=s.e i)->(∀k∈it.t.rd,b.h k=s.h k)->(∀k,it.t.lo<=k->k<it.t.hi->g.U k=false)->
  Region.wanted it.o (yielded ops a.tmps)=it.t.go/\
  (it.t.go=true->it.o.wp P a w (fun d f=>∃v c,d=a.put it.o.dst v/\Sat0 m (app it b) c d f/\Ext g b.h w c (app it b).h f/\∀k,c.U k=true->g.U k=true\/(it.t.lo<=k/\k<it.t.hi)) (fun _ _ _=>False))/\
  (it.t.go=false->it.t.x=.tu []/\it.t.us=[])
def indep(ops:Array Oper)(x y:It):Bool:=
 (match x.o.dst with|some d=> !(sV ops y.o).elem d&& !(y.o.dst==some d)|none=>true)&&
 (match y.o.dst with|some d=> !(sV ops x.o).elem d|none=>true)&&
 (x.t.us.all fun u=> !y.t.rd.elem u.1&& !(y.t.us.any fun v=>v.1==u.1))&&
 (y.t.us.all fun u=> !x.t.rd.elem u.1)
section
variable{P:Program}{m:Nat}{ops:Array Oper}
def lB{us:List (Nat×Option dX)}:∀{h:bw},(∀u∈us,u.1≠k)->ft h us k=h k:=by
 induction us with
 |nil=>intro h _;rfl
 |cons u r ih=>
  intro h a;show ft (up h u.1 u.2) r k=h k;rw[ih fun v b=>a v (by simp[b]),bI _ _ _ (Ne.symm (a u (by simp)))]
def LU{b:List (Nat×Option dX)}:∀{h h':bw},(∃u∈b,u.1=k)->ft h b k=ft h' b k:=by
 induction b with
 |nil=>intro h h' ⟨u,c,_⟩;cases c
 |cons u r ih=>
  intro h h' ⟨v,hv,d⟩;show ft (up h u.1 u.2) r k=ft (up h' u.1 u.2) r k;by_cases f:∃u∈r,u.1=k
  .exact ih f
  .have a:∀u∈r,u.1≠k:=fun u c e=>f ⟨u,c,e⟩;rw[lB a,lB a];rcases aw.1 hv with rfl|hv
   .rw[<-d,aR,aR]
   .exact absurd d (a v hv)
def nl{e:Nat->Option V}{d:Option Tmp}(h:d≠some i):ly e d x i=e i:=by
 cases d with
 |none=>rfl
 |some k=>exact bI _ _ _ (fun e=>h (by rw[e]))
def yD{x y:It}(h:indep ops x y=true):(∀d,x.o.dst=some d->d∉sV ops y.o/\y.o.dst≠some d)/\(∀d,y.o.dst=some d->d∉sV ops x.o)/\
 (∀u∈x.t.us,u.1∉y.t.rd/\∀v∈y.t.us,v.1≠u.1)/\(∀u∈y.t.us,u.1∉x.t.rd):=by
 unfold indep at h;simp only[ax]at h;obtain⟨⟨⟨c,e⟩,f⟩,g⟩:=h;refine⟨fun d a=>?_,fun d a=>?_,fun u b=>?_,fun u b=>?_⟩
 .rw[a]at c;simpa using c
 .rw[a]at e;simpa using e
 .have:=aQ.1 f u b;simp only[ax,kb,Jh,fZ]at this;refine⟨by simpa using this.1,fun v i=>by have:=this.2 v i;simpa using this⟩
 .have:=aQ.1 g u b;simpa using this
def Loc.agree{it:It}{s j:St}(h:Loc P m ops it s)(C:∀i∈sV ops it.o,j.e i=s.e i)(D:∀k∈it.t.rd,j.h k=s.h k):Loc P m ops it j:=
 fun E g a w H I J L=>h E g a w H (fun i A=>(I i A).trans (C i A)) (fun k B=>(J k B).trans (D k B)) L
def XB{x y:It}{s:St}(b:∀d,x.o.dst=some d->d∉sV ops y.o):∀i∈sV ops y.o,(app x s).e i=s.e i:=fun i a=>
 nl fun e=>b i e a
def XC{x y:It}{s:St}(a:∀u∈x.t.us,u.1∉y.t.rd):∀k∈y.t.rd,(app x s).h k=s.h k:=fun k b=>
 lB fun u c e=>a u c (e▸b)
def QN{x y:It}{s:St}(h:indep ops x y=true):app x (app y s)=app y (app x s):=by
 obtain⟨j,q,l,r⟩:=yD h;have n:ly (ly s.e y.o.dst y.t.x) x.o.dst x.t.x=ly (ly s.e x.o.dst x.t.x) y.o.dst y.t.x:=by
  funext i
  by_cases b:x.o.dst=some i
  .have a:=(j i b).2;rw[nl (d:=y.o.dst) a];rw[b];simp only[ly];rw[aR,aR]
  .rw[nl b];by_cases a:y.o.dst=some i
   .rw[a];simp only[ly];rw[aR,aR]
   .rw[nl a,nl a,nl b]
 have p:ft (ft s.h y.t.us) x.t.us=ft (ft s.h x.t.us) y.t.us:=by
  funext k
  by_cases b:∃u∈x.t.us,u.1=k
  .obtain⟨u,c,rfl⟩:=b;rw[LU (h':=s.h) ⟨u,c,rfl⟩,lB (us:=y.t.us) (l u c).2]
  .have f:∀u∈x.t.us,u.1≠k:=fun u c e=>b ⟨u,c,e⟩;rw[lB f];by_cases a:∃u∈y.t.us,u.1=k
   .exact LU a
   .have g:∀u∈y.t.us,u.1≠k:=fun u c e=>a ⟨u,c,e⟩;rw[lB g,lB g,lB f]
 unfold app;simp only;rw[n,p]
def Valid(P:Program)(m:Nat)(ops:Array Oper)(Q:St->Prop):List It->St->Prop
 |[],s=>Q s
 |x::r,s=>Loc P m ops x s/\Valid P m ops Q r (app x s)
def Valid.move{Q:St->Prop}{x:It}{C:List It}:∀{A:List It} {s:St},Valid P m ops Q (A++x::C) s->(∀y∈A,indep ops y x=true)->Loc P m ops x s/\Valid P m ops Q (A++C) (app x s)
 |[],s,h,_=>h
 |y::A,s,h,B=>by
  obtain⟨D,E⟩:=h;obtain⟨H,I⟩:=Valid.move E fun z J=>B z (by simp[J]);have j:=B y (by simp);obtain⟨L,M,N,O⟩:=yD j;refine⟨?_,?_,?_⟩
  .exact H.agree (fun i B=>(XB (s:=s) (fun d R=>(L d R).1) i B).symm) (fun k S=>(XC (s:=s) (fun u T=>(N u T).1) k S).symm)
  .exact D.agree (XB M) (XC O)
  .rw[QN j];exact I
def QO(a:List Nat)(o:Oper):Nat:=o.after.toList.foldl (fun s e=>if Region.binds .any e=true then s||| (2^e.on||| a.getD e.on 0)else s) 0
def pK:List Oper->List Nat->List Nat
 |[],a=>a
 |o::r,a=>pK r (a++[QO a o])
def Gn(a:List Nat)(j:Nat):∀(b:List Edge) (s:Nat),(b.foldl (fun s e=>if Region.binds .any e=true then s||| (2^e.on||| a.getD e.on 0)else s) s).testBit j=true->
 s.testBit j=true\/∃e∈b,Region.binds .any e=true/\(e.on=j\/(a.getD e.on 0).testBit j=true)
 |[],s,h=>.inl h
 |e::b,s,h=>by
  rcases Gn a j b _ h with h1|⟨d,h1,f⟩
  .change (if Region.binds .any e=true then s||| (2^e.on||| a.getD e.on 0)else s).testBit j=true at h1;split at h1
   .next c=>
    rw[jk,jk,fQ,fQ,abq]at h1;rcases h1 with h1|h1|h1
    .exact .inl h1
    .exact .inr ⟨e,by simp,c,.inl (by simpa using h1)⟩
    .exact .inr ⟨e,by simp,c,.inr h1⟩
   .exact .inl h1
  .exact .inr ⟨d,by simp[h1],f⟩
def NT(l:List Oper)(j:Nat)(B:Nat->Prop):∀(r:List Oper) (a:List Nat) (n:Nat),a.length=n->(∀i,r[i]? =l[n+i]?)->(∀i o,l[i]? =some o->i<n->(a.getD i 0).testBit j=true->(∀e∈o.after,Region.binds .any e=true->B e.on)->(∀i o,l[i]? =some o->B i->∀e∈o.after,Region.binds .any e=true->B e.on)->B j)->
 ∀i o,l[i]? =some o->((pK r a).getD i 0).testBit j=true->(∀e∈o.after,Region.binds .any e=true->B e.on)->(∀i o,l[i]? =some o->B i->∀e∈o.after,Region.binds .any e=true->B e.on)->B j:=by
 intro r;induction r with
 |nil=>
  intro a n v u b i o k d;have p:i<n:=by
   rcases cD i n with h|h
   .exact h
   .have:=u (i-n);rw[show n+(i-n)=i by omega,k]at this;simp at this
  exact b i o k p d
 |cons w r ih=>
  intro a n v u b;refine ih (a++[QO a w]) (n+1) (by simp[v]) (fun i=>by have:=u (i+1);simpa[cZ,Ji 1 i]using this) fun i o k p d c f=>?_;have q:l[n]? =some w:=by have:=u 0;simpa using this.symm
  rcases cD i n with h|h
  .rw[ah,an (by omega),<-ah]at d;exact b i o k h d c f
  .have e:i=n:=by omega
   subst e;rw[q]at k;cases k;rw[ah,ay (by omega),v,Nat.sub_self]at d;simp only[aF,kK]at d;rcases Gn a j _ 0 d with C|⟨e,D,E,h3⟩
   .simp at C
   .have x:e∈w.after:=by simpa using D
    have s:=c e x E;rcases h3 with h3|h3
    .rw[<-h3];exact s
    .have t:e.on<i:=by
      rcases cD e.on a.length with hq|hq
      .omega
      .rw[ah,fe hq]at h3;simp at h3
     cases g:l[e.on]? with
     |none=>
      have:i<l.length:=(List.getElem?_eq_some_iff.1 q).1;rw[List.getElem?_eq_none_iff]at g;omega
     |some A=>exact b e.on A g t h3 (fun F y z=>f e.on A g s F y z) f
def Yh(ops:Array Oper)(a:List Nat):List It->Bool
 |[]=>true
 |x::r=>(r.all fun y=>indep ops x y||(a.getD y.i 0).testBit x.i)&&Yh ops a r
def Gp{a:List Nat}:∀{l:List It},Yh ops a l=true->l.Pairwise fun x y=>indep ops x y=true\/(a.getD y.i 0).testBit x.i=true
 |[],_=>List.Pairwise.nil
 |x::r,h=>by
  simp only[Yh,ax]at h;refine List.Pairwise.cons (fun y b=>?_) (Gp h.2);have:=aQ.1 h.1 y b;simpa using this
def tX{l:Array Bool}{j:Nat}{d:Bool}(a:i<l.size):(l.setIfInBounds i true).getD j d=if i=j then true else l.getD j d:=by
 simp only[dh,dc];split
 .next e=>subst e;simp[a]
 .rfl
def Gq{l:Array Bool}(a:i<l.size):l.getD i true=l.getD i false:=by
 simp only[dh,dE a,Option.getD_some]
def NU(ops:Array Oper)(id:Nat)(Q:Exit->St->Prop)(z:Nat)(g0:Gh)(h0:bw)(a0:Act)(w0:World):∀(c:Nat) (listed:Array Bool) (rem:List It) (s:St) (g:Gh) (a:Act) (w:World),
 Valid P m ops (fun s=>Q .normal ⟨s.e,s.h,z⟩) rem s->Sat0 m s g a w->Ext g0 h0 w0 g s.h w->(∀i,sS ops.toList i=false->a.tmps.getD i undef=a0.tmps.getD i undef)->
 (∀x∈rem,∀k,x.t.lo<=k->k<x.t.hi->g.U k=false)->rem.Pairwise (fun x y=>x.t.hi<=y.t.lo)->rem.Pairwise (fun x y=>indep ops x y=true\/((pK ops.toList []).getD y.i 0).testBit x.i=true)->
 (∀k,z<=k->g.U k=false)->(∀x∈rem,x.t.hi<=z)->
 rem.Pairwise (fun x y=>x.i<y.i)->(∀x∈rem,ops[x.i]? =some x.o/\iz m x.o=true/\listed.getD x.i true=false/\∀e∈x.o.after,Region.binds .any e=true->e.on<x.i)->
 (∀i,i<ops.size->listed.getD i true=false->∃x∈rem,x.i=i)->listed.size=ops.size->
 (∀i o,ops[i]? =some o->listed.getD i false=true->∀e∈o.after,Region.binds .any e=true->listed.getD e.on false=true)->rem.length<=c->
 wpAny P .any ops (fun x S q=>∃I p,Q x I/\Sat m I p S q/\Ext g0 h0 w0 p I.h q/\∀i,writes (.region id ops true) i=false->S.tmps.getD i undef=a0.tmps.getD i undef) c listed a w:=by
 intro c;induction c with
 |zero=>
  intro listed rem s g a w hv n he hf J F K hU L A f l V M W;have:rem=[]:=List.eq_nil_of_length_eq_zero (by omega);subst this;have G:Region.ready .any ops listed=[]:=by
   rw[Region.ready,List.filter_eq_nil_iff];intro i hi N;simp only[ax,kb]at N;obtain⟨x,hx,_⟩:=l i (by simpa using hi) N.1;cases hx
  exact⟨G,_,g,hv,⟨n.rel,hU,n.env,n.size,n.NR⟩,he,hf⟩
 |succ c ih=>
  intro listed rem s g a w hv n he hf J F K hU L A f l V M W;refine⟨fun hr=>?_,fun i hi=>?_⟩
  .cases rem with
   |nil=>exact⟨_,g,hv,⟨n.rel,hU,n.env,n.size,n.NR⟩,he,hf⟩
   |cons x r=>
    exfalso;obtain⟨h1,O,h3,h4⟩:=f x (by simp);have R:=(Array.getElem?_eq_some_iff.1 h1).1;have X:x.i∈Region.ready .any ops listed:=by
     rw[Region.ready,adH];refine⟨by simpa using R,?_⟩;rw[h3,h1];simp only[Bool.not_false,nL,cj,kK,mV];intro e eq;cases N:Region.binds .any e with
     |false=>rfl
     |true=>
      have i8:=h4 e eq N;simp only[Bool.not_true,Bool.false_or];cases B:listed.getD e.on false with
      |true=>rfl
      |false=>
       rw[<-Gq (by omega)]at B;obtain⟨y,b,jp⟩:=l e.on (by omega) B;rcases aw.1 b with rfl|b
       .omega
       .have:=(eG.1 A).1 y b;omega
    rw[hr]at X;cases X
  .rw[Region.ready,adH]at hi;obtain⟨ge,Y⟩:=hi;have R:i<ops.size:=by simpa using ge
   simp only[ax,kb]at Y;obtain⟨g7,C⟩:=Y;obtain⟨x,hx,rfl⟩:=l i R g7;obtain⟨D,Z,_,lw⟩:=f x hx;rw[D]at C;simp only[cj,kK,mV,fQ,kb]at C;have E:∀e∈x.o.after,Region.binds .any e=true->listed.getD e.on false=true:=fun e h1 O=>by
    rcases C e h1 with h3|h3
    .rw[O]at h3;cases h3
    .exact h3
   obtain⟨l1,l2,rfl⟩:=List.append_of_mem hx;have am:∀y∈l1,indep ops y x=true:=fun y b=>by
    rcases(kH.1 K).2.2 y b x (by simp)with h1|h1
    .exact h1
    .exfalso;have N:=NT ops.toList y.i (fun k=>listed.getD k false=true) ops.toList [] 0 rfl (fun i=>by simp) (fun i o _ h=>by omega) x.i x.o (by rw[Array.getElem?_toList];exact D) h1 E (fun i o O h3=>M i o (by rwa[az]at O) h3);obtain⟨k1,_,T,_⟩:=f y (by simp[b]);have:=(aP.1 k1).1;rw[Gq (by omega)]at T;rw[T]at N;cases N
   obtain⟨a5,g8⟩:=hv.move am;obtain⟨w1,w2,w3⟩:=a5 s g a w n (fun _ _=>rfl) (fun _ _=>rfl) (J x (by simp));have d:=(List.Sublist.refl l1).append (List.sublist_cons_self x l2);have next:∀(v:Value) (p:Gh) (q:World),Sat0 m (app x s) p (a.put x.o.dst v) q->Ext g s.h w p (app x s).h q->(∀k,p.U k=true->g.U k=true\/(x.t.lo<=k/\k<x.t.hi))->
    wpAny P .any ops (fun x S q=>∃I p,Q x I/\Sat m I p S q/\Ext g0 h0 w0 p I.h q/\∀i,writes (.region id ops true) i=false->S.tmps.getD i undef=a0.tmps.getD i undef) c (listed.setIfInBounds x.i true) (a.put x.o.dst v) q:=by
    intro v p q k1 T k3;refine ih (listed.setIfInBounds x.i true) (l1++l2) (app x s) p _ q g8 k1 (he.trans T) (fun j H=>?_) (fun y b k ii io=>?_) (F.sublist d) (K.sublist d) (fun k hk=>?_) (fun y b=>L y (d.subset b)) (A.sublist d) (fun y b=>?_) (fun j H B=>?_) (by simpa using V) (fun j o H B e h1 O=>?_) (by simp at W|-;omega)
    .rw[tW j (by rw[n.size];exact jd Z),if_neg ?_]
     .exact hf j H
     .intro e;have a9:=List.mem_of_getElem? (by rw[Array.getElem?_toList];exact D);have:=Jh.1 H x.o a9;rw[e]at this;simp at this
    .cases hu:p.U k with
     |false=>rfl
     |true=>
      rcases k3 k hu with h1|h1
      .rw[J y (d.subset b) k ii io]at h1;cases h1
      .exfalso;rcases aJ.1 b with b|b
       .have:=(kH.1 F).2.2 y b x (by simp);omega
       .have:=(eG.1 (kH.1 F).2.1).1 y b;omega
    .cases hu:p.U k with
     |false=>rfl
     |true=>
      rcases k3 k hu with h1|h1
      .rw[hU k hk]at h1;cases h1
      .have:=L x (by simp);omega
    .obtain⟨j1,j2,j3,j4⟩:=f y (d.subset b);refine⟨j1,j2,?_,j4⟩;rw[tX (by omega),aI ?_]
     .exact j3
     .intro e;rcases aJ.1 b with b|b
      .have:=(kH.1 A).2.2 y b x (by simp);omega
      .have:=(eG.1 (kH.1 A).2.1).1 y b;omega
    .rw[tX (by omega)]at B;split at B
     .cases B
     .next ip=>
      obtain⟨y,b,rfl⟩:=l j H B;refine⟨y,?_,rfl⟩;rcases aJ.1 b with b|b
      .exact List.mem_append.2 (.inl b)
      .rcases aw.1 b with rfl|b
       .exact absurd rfl ip
       .exact List.mem_append.2 (.inr b)
    .rw[tX (by omega)]at B|-;split
     .rfl
     .split at B
      .next e1=>subst e1;rw[D]at H;cases H;exact E e h1 O
      .exact M j o H B e h1 O
   unfold wpOp;rw[D];simp only;rw[w1];cases em:x.t.go with
   |true=>
    simp only[iu];left;refine sT (w2 em) fun S q ⟨v,p,k0,k1,T,k3⟩=>?_;subst k0;exact next v p q k1 T k3
   |false=>
    simp only[ed,mU];obtain⟨e1,e2⟩:=w3 em;have hh:(app x s).h=s.h:=by unfold app;rw[e2];rfl
    refine next undef g w ⟨by rw[hh];exact n.rel,fun j y b=>?_,by cases x.o.dst<;>simp[Act.put,n.size],by cases x.o.dst<;>simp[Act.put,n.NR]⟩ (by rw[hh];exact Ext.refl _ _ _) (fun k hk=>.inl hk)
    rw[hh];have u:ly s.e x.o.dst x.t.x j=some y:=b;rw[tW j (by rw[n.size];exact jd Z)];by_cases hd:x.o.dst=some j
    .rw[if_pos hd];rw[hd,e1]at u;simp only[ly]at u;rw[aR]at u;cases u;exact .tu [] [] rfl GL.nil.at_
    .rw[if_neg hd];rw[nl hd]at u;exact n.env j y u
end
end
section
variable[de]
def RDr(P:Program)(m:Nat)(ops:Array Oper)(Q:St->Prop):List Oper->Nat->List It->St->Prop
 |[],_,a,s=>Yh ops (pK ops.toList []) a.reverse=true/\Q s
 |o::r,i,a,s=>∃t:Tr,Loc P m ops ⟨i,o,t⟩ s/\t.lo=s.n/\s.n<=t.hi/\RDr P m ops Q r (i+1) (⟨i,o,t⟩::a) ⟨ly s.e o.dst t.x,ft s.h t.us,t.hi⟩
def xS(ops:Array Oper):Bool:=(List.range ops.size).all fun i=>match ops[i]? with
 |some o=>o.after.all fun e=> !Region.binds .any e||Nat.blt e.on i
 |none=>true
section
variable{P:Program}{m:Nat}{ops:Array Oper}{tab:gI}
def Loc.n{it:It}{s:St}{n:Nat}(h:Loc P m ops it s):Loc P m ops it ⟨s.e,s.h,n⟩:=h.agree (fun _ _=>rfl) (fun _ _=>rfl)
def BU{Q:St->Prop}:∀(r:List Oper) (i:Nat) (b:List It) (s:St),RDr P m ops Q r i b s->∃l a,Yh ops (pK ops.toList []) (b.reverse++l)=true/\
 Valid P m ops (fun s=>Q ⟨s.e,s.h,a⟩) l s/\l.Pairwise (fun x y=>x.t.hi<=y.t.lo)/\l.Pairwise (fun x y=>x.i<y.i)/\(∀x∈l,s.n<=x.t.lo/\x.t.hi<=a/\i<=x.i/\r[x.i-i]? =some x.o)/\(∀j,j<r.length->∃x∈l,x.i=i+j)/\s.n<=a
 |[],i,b,s,h=>⟨[],s.n,by rw[fh];exact h.1,h.2,List.Pairwise.nil,List.Pairwise.nil,by simp,by simp,ae _⟩
 |o::r,i,b,s,⟨t,w,H,I,z⟩=>by
  obtain⟨l,a,A,B,C,D,p,E,v⟩:=BU r (i+1) _ _ z;refine⟨⟨i,o,t⟩::l,a,?_,⟨w,?_⟩,?_,?_,?_,?_,by have:t.hi<=a:=v;omega⟩
  .simpa[adl]using A
  .have q:∀(l:List It) (s c:St),s.e=c.e->s.h=c.h->Valid P m ops (fun s=>Q ⟨s.e,s.h,a⟩) l s->Valid P m ops (fun s=>Q ⟨s.e,s.h,a⟩) l c:=by
    intro l;induction l with
    |nil=>intro s c f g h;simp only[Valid]at h|-;rw[<-f,<-g];exact h
    |cons x l ih=>
     intro s c f g h;exact⟨h.1.agree (fun i _=>by rw[f]) (fun k _=>by rw[g]),ih _ _ (by simp only[app];rw[f]) (by simp only[app];rw[g]) h.2⟩
   exact q l ⟨ly s.e o.dst t.x,ft s.h t.us,t.hi⟩ (app ⟨i,o,t⟩ s) rfl rfl B
  .exact List.Pairwise.cons (fun y u=>(p y u).1) C
  .exact List.Pairwise.cons (fun y u=>by have:=(p y u).2.2.1;show i<y.i;omega) D
  .intro x d;rcases aw.1 d with rfl|d
   .exact⟨by show s.n<=t.lo;omega,v,Nat.le_refl _,by simp⟩
   .obtain⟨j1,j2,j3,j4⟩:=p x d;refine⟨by have:t.hi<=x.t.lo:=j1;omega,j2,by omega,?_⟩;have:x.i-i=(x.i-(i+1))+1:=by omega
    rw[this,ap];exact j4
  .intro j F;cases j with
   |zero=>exact⟨_,List.mem_cons_self,rfl⟩
   |succ j=>
    obtain⟨x,d,G⟩:=E j (by simpa using F);exact⟨x,List.mem_cons_of_mem _ d,by omega⟩
def Yi{id:Nat}{Q:Exit->St->Prop}{s:St}(C:P.follows .mixedOrders=true)(D:(ops.toList.all (iz m))=true)(t:xS ops=true)(h:RDr P m ops (Q .normal) ops.toList 0 [] s):W P m (.region id ops true) Q s:=by
 intro g a w d;obtain⟨l,f,E,F,G,z,q,H,L⟩:=BU ops.toList 0 [] s h;have j:Ext g s.h w g s.h w.drew:=lq rfl rfl rfl rfl;refine aaj C ?_;refine NU ops id Q f g s.h a w ops.size (Array.replicate ops.size false) l s g a w.drew F ⟨qd d.rel rfl rfl rfl rfl,fun i x u=>(d.env i x u).ext j,d.size,d.NR⟩ j (fun _ _=>rfl) (fun x c k I _=>d.new k ?_) G (Gp (by simpa using E)) (fun k I=>d.new k ?_) (fun x c=>(q x c).2.1) z (fun x c=>?_) (fun i u _=>?_) (by simp) (fun i o _ v=>?_) ?_
 .have:=(q x c).1;omega
 .omega
 .obtain⟨j1,j2,j3,j4⟩:=q x c;rw[Nat.sub_zero,az]at j4;have p:=(Array.getElem?_eq_some_iff.1 j4).1;refine⟨j4,List.all_eq_true.1 D x.o (List.mem_of_getElem? (by rw[az];exact j4)),by simp[Array.getD,p],fun e J r=>?_⟩;have:=aQ.1 t x.i (by simpa using p);rw[j4]at this;have:=(mV.1 this) e J;rw[r]at this;simpa using this
 .obtain⟨x,c,K⟩:=H i (by simpa using u);exact⟨x,c,by omega⟩
 .exfalso;simp only[dh,Array.getElem?_replicate]at v;split at v<;>simp at v
 .have:∀(l:List It) (b n:Nat),l.Pairwise (fun x y=>x.i<y.i)->(∀x∈l,b<=x.i/\x.i<n)->l.length+b<=max n b:=by
   intro l;induction l with
   |nil=>intro b n _ _;simp;omega
   |cons x l ih=>
    intro b n A r;have:=ih (x.i+1) n (List.pairwise_cons.1 A).2 (fun y B=>⟨(List.pairwise_cons.1 A).1 y B,(r y (by simp[B])).2⟩);have:=r x (by simp);simp only[aW];omega
  have:=this l 0 ops.size z (fun x c=>⟨Nat.zero_le _,by
   obtain⟨j1,j2,j3,j4⟩:=q x c;rw[Nat.sub_zero,az]at j4;exact(aP.1 j4).1⟩)
  omega
def UI(s:St)(op:Op):List Nat:=(fE op).flatMap fun x=>match s.ev x with
 |some v=>tid v
 |none=>[]
def JH{x:Operand}(h:x∈fE op):x∈op.operands:=by
 cases op with
 |call c=>simp only[fE]at h;simp only[Op.operands,Call.operands,vw];exact .inr (by simpa using h)
 |slice t y l a m=>simp only[fE,bG]at h;subst h;simp[Op.operands]
 |binOp op t y z u=>
  have h:x=y:=by
   unfold fE at h;split at h<;>first|(simp at h;done)|skip
   all_goals(rename_i hq;first|(cases hq;done)|(cases hq;simpa using h))
  subst h;simp[Op.operands]
 |_=>first|(simp only[fE,bG]at h;subst h;simp[Op.operands];done)|(simp[fE]at h;done)
def QP{t:Nat}(h:Operand.tmp t∈o.op.operands):t∈sV ops o:=by
 unfold sV;refine aJ.2 (.inl ?_);rw[ade];exact⟨.tmp t,by simpa using h,rfl⟩
def qo{s a:St}(b:∀i∈sV ops o,a.e i=s.e i):∀x∈o.op.operands,a.ev x=s.ev x:=by
 intro x c;cases x with
 |tmp t=>exact b t (QP c)
 |_=>rfl
def tY{s a:St}(c:∀i∈sV ops o,a.e i=s.e i):DH a ops o=DH s ops o:=by
 unfold DH;cases f:o.guard with
 |none=>rfl
 |some p=>
  obtain⟨j,b⟩:=p;simp only;cases g:(ops[j]?).bind (·.dst)with
  |none=>rfl
  |some d=>
   have:a.e d=s.e d:=c d (by unfold sV;refine aJ.2 (.inr ?_);rw[f];simp only;rw[g];simp);simp only[this]
def xT{s:St}{a:Act}(y:Sat0 m s g a w){r:Bool}(e:DH s ops o=some r):Region.wanted o (yielded ops a.tmps)=r:=by
 have:∃n,∀k,n<=k->(Gh.cut g n).U k=false:=⟨0,fun k _=>by simp[Gh.cut]⟩;unfold DH at e;unfold Region.wanted;split at e
 .next h=>cases e;rw[h]
 .next j i h=>
  rw[h];simp only;split at e
  .next d z=>
   have l:∀v,a.tmps.getD d undef=v->v≠undef->yielded ops a.tmps j=(match v with|.bool b=>some b|_=>none):=fun v c t=>by
    unfold yielded;rw[z];simp only[dh]at c;cases hq:a.tmps[d]? with
    |none=>rw[hq]at c;exact absurd c.symm t
    |some u=>rw[hq]at c;simp at c;subst c;simp only[aT,hq];cases u<;>rfl
   split at e
   .next x p=>
    cases e;have c:=(y.env d _ p).cG;have f:a.tmps.getD d undef=x:=by
     generalize a.tmps.getD d undef=q at c|-;cases c;rfl
    rw[l _ f (by simp[undef])];cases x<;>cases i<;>rfl
   .next p=>
    cases e;have c:=y.env d _ p;have f:a.tmps.getD d undef=.tuple #[]:=by
     generalize a.tmps.getD d undef=q at c|-;cases c with
     |tu _ A B p=>
      have:A=[]:=List.eq_nil_of_length_eq_zero (by simpa using B);rw[this]
    have:yielded ops a.tmps j=none:=by
     unfold yielded;rw[z];simp only[dh]at f;cases hq:a.tmps[d]? with
     |none=>simp[hq]
     |some v=>rw[hq]at f;simp at f;subst f;simp[hq]
    rw[this];rfl
   .cases e
  .cases e
def Sat0.ev{s:St}{g:Gh}{a:Act}{w:World}(A:Sat0 m s g a w):∀o x,s.ev o=some x->GV g s.h w x (a.eval o):=by
 intro o x h;cases o with
 |tmp t=>exact A.env t x h
 |const v=>exact BS h
 |func f=>
  cases h;exact .d _ _ (.f _ [] [] [] [] rfl rfl (fun i d v h=>by simp at h) (fun i d v h=>by simp at h))
 |global k=>
  obtain⟨⟨sz,j⟩,B,C⟩:=mY h;subst C;exact .d _ _ (A.rel.lO k sz j B)
def Sat0.put{s:St}{g g':Gh}{a:Act}{w w':World}(B:Sat0 m s g a w){h':bw}{n':Nat}{x:V}{v:Value}{d:Option Tmp}(C:∀k,d=some k->k<m)(D:GV g' h' w' x v)(E:Rel g' h' w')(H:Ext g s.h w g' h' w'):
 Sat0 m ⟨ly s.e d x,h',n'⟩ g' (a.put d v) w' where
 rel:=E
 env:=fun i y j=>by
  rw[tW i (by rw[B.size];exact C)];by_cases e:d=some i
  .rw[aS e];rw[e]at j;simp only[ly]at j;rw[aR]at j;cases j;exact D
  .rw[aI e];have A:ly s.e d x i=some y:=j;rw[nl e]at A;exact(B.env i y A).ext H
 size:=by cases d<;>simp[Act.put,B.size]
 NR:=by cases d<;>simp[Act.put,B.NR]
def qp(P:Program)(op:Op)(c:Operand->Option V)(h:bw)(n:Nat)(out:Out):Prop:=
 ∀(a:Operand->Option V) (b:bw),(∀x∈op.operands,a x=c x)->(∀x∈fE op,∀v,c x=some v->∀k∈tid v,b k=h k)->∀(g:Gh) (w:World) (ρ:Operand->Value),Rel g b w->
  (∀o x,a o=some x->GV g b w x (ρ o))->g.U n=false->g.U (n+1)=false->∀o:Oper,o.op=op->Step P g b w n out ((execOp ρ o).run P w)
def qp.Ge(j:dN P tab){C:Operand->Option V}{n:Nat}{A:Bool}(H:cM tab C h n A op=some out):qp P op C h n out:=by
 intro I R D J g w ρ L M hq B o N;subst N;refine wV j L M hq B (mu:=A) ?_;rw[<-H];refine Gm D fun x E v O k Q=>J x E v ?_ k Q;rw[<-D x (JH E)];exact O
def mz.aan{s:St}{K:St->Prop}(I:iz m o=true)(J:qp P o.op s.ev s.h s.n out)(D:K ⟨ly s.e o.dst out.x,ft s.h out.us,max s.n out.n⟩):mz P m o s K:=by
 intro g a w j;obtain⟨v,R,C,B,L,M,E,N⟩:=J s.ev s.h (fun _ _=>rfl) (fun _ _ _ _ _ _=>rfl) g w a.eval j.rel j.ev (j.new s.n (Nat.le_refl _)) (j.new (s.n+1) (Nat.le_succ _)) o rfl;have O:∀k,max s.n out.n<=k->C.U k=false:=fun k D=>by
  cases Q:C.U k with
  |false=>rfl
  |true=>
   rcases N k Q with H|H
   .rw[j.new k (by omega)]at H;cases H
   .omega
 have A:=j.put (d:=o.dst) (jd I) L M E O;unfold Oper.wp;rcases B with B|⟨B,rfl⟩
 .rw[B];exact⟨v,_,C,rfl,D,A,E⟩
 .rw[B];exact⟨undef,_,C,rfl,D,A,E⟩
def Yj{s:St}(u:DH s ops o=some true)(y:iz m o=true)(z:qp P o.op s.ev s.h s.n out)(A:Nat.ble out.n (s.n+2)=true):
 Loc P m ops ⟨i,o,⟨true,out.x,out.us,s.n,s.n+2,UI s o.op++out.us.map (·.1)⟩⟩ s:=by
 intro f g a w e q B r;have C:out.n<=s.n+2:=by simpa using A
 refine⟨xT e ((tY q).trans u),fun _=>?_,fun h=>by cases h⟩;obtain⟨v,I,j,c,D,E,l,F⟩:=z f.ev f.h (qo q) (fun x G v H k p=>B k (by
  refine aJ.2 (.inl ?_);rw[UI,gY];exact⟨x,G,by rw[H];exact p⟩)) g w a.eval e.rel e.ev (r s.n (Nat.le_refl _) (by show s.n<s.n+2;omega)) (r (s.n+1) (by show s.n<=s.n+1;omega) (by show s.n+1<s.n+2;omega)) o rfl
 have b:=e.put (n':=f.n) (d:=o.dst) (jd y) D E l;have t:∀k,j.U k=true->g.U k=true\/(s.n<=k/\k<s.n+2):=fun k p=>by
  rcases F k p with h|h
  .exact .inl h
  .exact .inr ⟨h.1,by omega⟩
 unfold Oper.wp;rcases c with c|⟨c,rfl⟩
 .rw[c];exact⟨v,j,rfl,b,l,t⟩
 .rw[c];exact⟨undef,j,rfl,b,l,t⟩
def QQ{s:St}(b:DH s ops o=some false):Loc P m ops ⟨i,o,⟨false,.tu [],[],s.n,s.n,[]⟩⟩ s:=
 fun e g a w c d f j=>⟨xT c ((tY d).trans b),(fun h=>by cases h),fun _=>⟨rfl,rfl⟩⟩
end
end
section
variable[de]
def GV.free{g1:Gh}{C:bw}(N:g1.F=g.F)(P:GV g h w x v)(A:x.lt 0=true):GV g1 C w x v:=by
 have no:∀k:Nat,Nat.blt k 0=true->False:=fun k D=>by simp at D
 induction P with
 |d x v I=>exact .d x v (N▸I)
 |p k i j b sz D L=>exact(no k A).elim
 |t k e sz O v D I W=>exact(no k A).elim
 |vn k D L=>exact(no k A).elim
 |ve k Q a D=>exact(no k A).elim
 |v k Q m b sz cap c t X D L Y Z hm=>exact(no k A).elim
 |g cells H B M I ih=>
  have A:V.nk 0 cells=true:=by simpa[V.lt]using A
  exact .g cells H B M fun i x v C J=>ih i x v C J (V.kn A x (List.mem_of_getElem? C))
 |a cells H B M I=>exact .a cells H B M (N▸I)
 |tu cells H B I ih=>
  have A:V.nk 0 cells=true:=by simpa[V.lt]using A
  exact .tu cells H B fun i x v C J=>ih i x v C J (V.kn A x (List.mem_of_getElem? C))
 |f fn first E H R C J g1 g2 S T=>
  have A:V.nk 0 first=true/\V.nk 0 E=true:=by simpa[V.lt]using A
  exact .f fn first E H R C J (fun i x v a b=>S i x v a b (V.kn A.1 x (List.mem_of_getElem? a))) (fun i x v a b=>T i x v a b (V.kn A.2 x (List.mem_of_getElem? a)))
 |m k b sz D L=>exact(no k A).elim
 |it k b sz D L=>exact(no k A).elim
def GL.free{g g1:Gh}{h C:bw}{w:World}(D:g1.F=g.F){j:List V}{A:List Value}(B:GL g h w j A)(E:V.nk 0 j=true):GL g1 C w j A:=
 ⟨B.len,fun i x v a b=>(B.at_ i x v a b).free D (V.kn E x (List.mem_of_getElem? a))⟩
def Gh.bare(g:Gh):Gh:=⟨fun _=>none,fun _=>none,g.F,fun _=>false⟩
def Gh.over(g j:Gh):Gh:=⟨g.σ,g.τ,j.F,g.U⟩
def Rel.bare{g:Gh}{h:bw}{w:World}(j:Rel g h w):Rel g.bare (fun _=>none) w where
 lO:=j.lO
 inj:=fun k C b A D=>by simp[dJ]at A
 lt:=fun b ⟨k,hb⟩=>by rcases hb with⟨sz,hb⟩|hb<;>cases hb
 fresh:=j.fresh
 top:=fun k _=>⟨rfl,rfl,rfl⟩
 obj:=fun k o B=>by cases B
def Ext.over{g E:Gh}{h I:bw}{w H:World}(J:Rel g h w)(A:Ext g.bare (fun _=>none) w E I H):Ext g h w (g.over E) h H where
 n:=fun _ h=>h
 size:=A.size
 os:=A.os
 tape:=A.tape
 output:=A.output
 stays:=A.stays
 out:=fun b B _=>A.out b B (fun⟨k,j⟩=>by rcases j with⟨sz,j⟩|j<;>cases j)
 own:=fun b B=>.inl B
 sig:=fun _ _=>rfl
 tok:=fun k j L C=>⟨L,C,.inr ⟨rfl,rfl,fun b B=>by
  have D:=J.lt b ⟨k,.inr B⟩;have:=A.out b D (fun⟨k,j⟩=>by rcases j with⟨sz,j⟩|j<;>cases j);exact⟨this.2,fun⟨c,t,M⟩=>⟨c,t,this.1.trans M⟩⟩⟩⟩
def Rel.over{g L:Gh}{h X:bw}{w M:World}(D:Rel g h w)(Q:Ext g.bare (fun _=>none) w L X M)(R:Rel L X M):Rel (g.over L) h M:=by
 have N:=Ext.over D Q;have H:∀b,b<w.heap.size->M.heap[b]? =w.heap[b]? /\L.F b=g.F b:=fun b H=>Q.out b H (fun⟨k,I⟩=>by rcases I with⟨sz,I⟩|I<;>cases I);refine⟨fun k sz A I=>(D.lO k sz A I).stay N.stays,D.inj,fun b H=>Nat.lt_of_lt_of_le (D.lt b H) Q.size,R.fresh,D.top,fun k o Y=>?_⟩;cases D.obj k o Y with
 |nilvec sz C=>exact .nilvec sz C
 |row sz A S b c t C B Z T hc hv hone E=>
  have:=H b (D.lt b ⟨k,.inl ⟨sz,C⟩⟩);exact .row sz A S b c t C (this.1.trans B) (this.2.trans Z) T hc hv hone fun i r j x v O P a3=>(E i r j x v O P a3).ext N
 |tok m=>exact .tok m
 |it s pos b sz bs C B V=>exact .it s pos b sz bs C ((H b (D.lt b ⟨k,.inl ⟨sz,C⟩⟩)).1.trans B) V
 |map es b sz J clock C B W E=>exact .map es b sz J clock C ((H b (D.lt b ⟨k,.inl ⟨sz,C⟩⟩)).1.trans B) W fun i x e O P=>⟨(E i x e O P).1.ext N,(E i x e O P).2.ext N⟩
def PC(P:Program)(f:FuncId)(args:List V)(r:V):Prop:=
 V.nk 0 args=true/\V.lt 0 r=true/\AC P f args (fun _=>none) 0 fun x _ _=>x=r
def PC.over{P:Program}{f:FuncId}{args:List V}{r:V}(B:PC P f args r){g:Gh}{h:bw}{w:World}(C:Rel g h w){D:List Value}(H:GL g h w args D):
 Calls P f D.toArray w fun e A=>∃v j,e=.returned v/\GV (g.over j) h A r v/\Rel (g.over j) h A/\Ext g h w (g.over j) h A:=by
 refine(B.2.2 g.bare w D C.bare (fun _ _=>rfl) (GL.free (g:=g) (g1:=g.bare) rfl H B.1)).mono fun e A ⟨v,x,N,O,j,I,J,L,M,Q,E⟩=>?_;subst J;exact⟨v,j,I,GV.free (g:=j) (g1:=g.over j) rfl L B.2.1,C.over E M,E.over C⟩
def PC.ac(j:PC P f args r)(h:bw)(n:Nat){K:V->bw->Nat->Prop}(A:K r h n):AC P f args h n K:=by
 intro g w M B C D;exact(j.over B D).mono fun e N ⟨v,E,H,I,J,L⟩=>⟨v,r,h,n,g.over E,H,A,I,J,C,L⟩
end
section
variable[de]
section
variable{P:Program}{m:Nat}{ops:Array Oper}{o:Oper}
def JI{s:St}(l:∀o x,s.ev o=some x->GV g s.h w x (ρ o))(d:∀args w,(callFunc f args).run P w=.ok (.enter f args) w){x:Operand}{n:Array TypeId}
 (hop:o.op=.call ⟨.value x,c,n⟩){b e:List V}(j:callee s x=some (f,a,b))(C:xu s.ev c.toList=some e):
 ∃i:List Value,(execOp ρ o).run P w=.ok (.enter f i.toArray) w/\GL g s.h w (a++e++b) i:=by
 have r:=qh l C;have t:∃p q:List Value,ρ x=.func (.func f) p.toArray q.toArray/\GL g s.h w a p/\GL g s.h w b q:=by
  unfold callee at j;split at j
  .next D E F u=>
   cases j;have k:=(l x _ u).cG;generalize ρ x=q at k|-;cases k with
   |f _ _ _ e i v y z A=>exact⟨e,i,rfl,GL.Xx v z,GL.Xx y A⟩
  .next D E F u=>
   cases j;have k:=l x _ u;generalize ρ x=q at k|-;cases k with
   |f _ _ _ e i v y z A=>exact⟨e,i,rfl,⟨v,z⟩,⟨y,A⟩⟩
  .cases j
 obtain⟨p,q,B,G,hq⟩:=t;refine⟨p++c.toList.map ρ++q,?_,(G.append r).append hq⟩;unfold execOp;rw[hop];simp only[resolve,B,Deferred.ofValue,aB,cH,aq,invoke];rw[d]
 congr 2
 apply Fx;simp
def wX(P:Program)(f:FuncId)(args:List V)(r:V):Prop:=
 ∀g h w a,GL g h w args a->∃v,(callFunc f a.toArray).run P w=.ok (.value v) w/\GV g h w r v
def yE{s:St}(l:∀o x,s.ev o=some x->GV g s.h w x (ρ o)){x:Operand}{n:Array TypeId}
 (hop:o.op=.call ⟨.value x,c,n⟩){b d:List V}(e:callee s x=some (f,a,b))(D:xu s.ev c.toList=some d)(E:wX P f (a++d++b) r):
 ∃v,(execOp ρ o).run P w=.ok (.value v) w/\GV g s.h w r v:=by
 have t:=qh l D;have u:∃p q:List Value,ρ x=.func (.func f) p.toArray q.toArray/\GL g s.h w a p/\GL g s.h w b q:=by
  unfold callee at e;split at e
  .next F G H y=>
   cases e;have i:=(l x _ y).cG;generalize ρ x=q at i|-;cases i with
   |f _ _ _ d z j k A B=>exact⟨d,z,rfl,GL.Xx j A,GL.Xx k B⟩
  .next F G H y=>
   cases e;have i:=l x _ y;generalize ρ x=q at i|-;cases i with
   |f _ _ _ d z j k A B=>exact⟨d,z,rfl,⟨j,A⟩,⟨k,B⟩⟩
  .cases e
 obtain⟨p,q,C,I,hq⟩:=u;obtain⟨v,j,k⟩:=E g s.h w (p++c.toList.map ρ++q) ((I.append t).append hq);refine⟨v,?_,k⟩;rw[<-j];unfold execOp;rw[hop];simp only[resolve,C,Deferred.ofValue,aB,cH,aq,invoke]
 congr 2
 apply Fx;simp
def NV{s:St}{K:St->Prop}{x:Operand}{i:Array TypeId}(hop:o.op=.call ⟨.value x,c,i⟩)(k:iz m o=true){b:List V}(l:callee s x=some (f,a,b))(p:xu s.ev c.toList=some j)(q:wX P f (a++j++b) r)
 (t:K ⟨ly s.e o.dst r,s.h,s.n⟩):mz P m o s K:=by
 intro g u w d;obtain⟨v,y,z⟩:=yE d.ev hop l p q;unfold Oper.wp;rw[y];exact⟨v,_,g,rfl,t,d.put (jd k) z d.rel (Ext.refl _ _ _) d.new,Ext.refl _ _ _⟩
def UJ{s:St}{x:Operand}{q:Array TypeId}(C:DH s ops o=some true)(D:iz m o=true)
 (hop:o.op=.call ⟨.value x,c,q⟩){b t:List V}(E:callee s x=some (f,a,b))(F:xu s.ev c.toList=some t)(G:wX P f (a++t++b) r):
 Loc P m ops ⟨i,o,⟨true,r,[],s.n,s.n,[]⟩⟩ s:=by
 intro u g H w l z K L;refine⟨xT l ((tY z).trans C),fun _=>?_,fun h=>by cases h⟩;have e:∀y,(y=x\/y∈c)->y∈o.op.operands:=by
  intro y p;rw[hop];simp only[Op.operands,Call.operands];rcases p with rfl|p<;>simp_all
 have A:callee u x=some (f,a,b):=by
  rw[<-E];unfold callee;rw[qo z x (e x (.inl rfl))]
 have B:xu u.ev c.toList=some t:=by
  rw[<-F];exact kP fun y p=>qo z y (e y (.inr (by simpa using p)))
 obtain⟨v,j,I⟩:=yE l.ev hop A B G;unfold Oper.wp;rw[j];exact⟨v,g,rfl,l.put (n':=u.n) (d:=o.dst) (jd D) I l.rel (Ext.refl _ _ _),Ext.refl _ _ _,fun k J=>.inl J⟩
end
end
section
variable[de]
def inI(m:Nat)(n:Int):Bool:=Int.rec (fun a=>Nat.ble (Nat.succ a) m) (fun a=>Nat.ble (Nat.succ a) m) n
def Gr{n:Int}(h:inI m n=true): -(m:Int)<=n/\n<m:=by
 cases n with
 |ofNat a=>have:=dQ (show Nat.ble (Nat.succ a) m=true from h);simp only[fB];omega
 |negSucc a=>have:=dQ (show Nat.ble (Nat.succ a) m=true from h);omega
def LV(k:IntKind)(n:Int):Int:=match k with
 |.i64=>Bool.rec (IntKind.i64.wrap n) n (inI 9223372036854775808 n)
 |.i32=>Bool.rec (IntKind.i32.wrap n) n (inI 2147483648 n)
 |k=>k.wrap n
def QR(k:IntKind)(n:Int):LV k n=k.wrap n:=by
 unfold LV;split
 .cases h:inI 9223372036854775808 n with
  |false=>rfl
  |true=>
   have:=Gr h;show n=_;unfold IntKind.wrap;simp only[IntKind.bits,IntKind.signed,nL];split<;>(rename_i a;first|omega|(simp at a;omega))
 .cases h:inI 2147483648 n with
  |false=>rfl
  |true=>
   have:=Gr h;show n=_;unfold IntKind.wrap;simp only[IntKind.bits,IntKind.signed,nL];split<;>(rename_i a;first|omega|(simp at a;omega))
 .rfl
def QS(op:BinOp)(k:IntKind)(a b:Int):Option D:=match op with
 |.add=>some (.i k (LV k (Int.add a b)))
 |.sub=>some (.i k (LV k (Int.sub a b)))
 |.eql=>some (.b (AZ a b))
 |.neq=>some (.b (!AZ a b))
 |.lss=>some (.b (tN a b))
 |.leq=>some (.b (lP a b))
 |.gtr=>some (.b (tN b a))
 |.geq=>some (.b (lP b a))
 |op=>Be op k a k b
def UK(op:BinOp)(k:IntKind)(a b:Int):QS op k a b=Be op k a k b:=by
 cases op<;>simp only[QS,Be,iu,QR,mw,lQ,jI]<;>first|rfl|skip
def Yk(op:BinOp)(k:IntKind)(a:Int)(c:IntKind)(b:Int):Option D:=match k,c with
 |.i64,.i64=>QS op .i64 a b
 |.i32,.i32=>QS op .i32 a b
 |.u8,.u8=>QS op .u8 a b
 |k,c=>Be op k a c b
def UL(op:BinOp)(k:IntKind)(a:Int)(c:IntKind)(b:Int):Yk op k a c b=Be op k a c b:=by
 unfold Yk;split<;>first|exact UK _ _ _ _|rfl
def QT(c:gI)(op:BinOp)(t:TypeId)(x y:V):Option V:=match x,y with
 |.d (.i k a),.d (.i e b)=>(Yk op k a e b).map .d
 |x,y=>Jt (fun _=>none) c op t x y
def eS(h:bw)(a:gI)(op:BinOp)(t:TypeId)(x y:V):QT a op t x y=Jt h a op t x y:=by
 unfold QT;split
 .rw[UL];rfl
 .exact JG
end
section
variable[de]
abbrev Kd:=Nat->Option Bool
mutual
def V.on(c:Kd):V->Bool
 |.d _|.a _=>true
 |.p k _ _=>c k==some false
 |.t k _ _ _=>(c k).isSome
 |.v k _ _=>c k==some false
 |.m k=>c k==some false
 |.it k=>c k==some false
 |.g l=>V.xx c l
 |.tu l=>V.xx c l
 |.f _ j A=>V.xx c j&&V.xx c A
def V.xx(c:Kd):List V->Bool
 |[]=>true
 |x::l=>V.on c x&&V.xx c l
end
def V.oQ{c:Kd}:∀{l:List V},V.xx c l=true->∀x∈l,V.on c x=true
 |[],_,x,j=>by cases j
 |y::l,h,x,j=>by
  simp only[V.xx,ax]at h;rcases aw.1 j with rfl|j
  .exact h.1
  .exact V.oQ h.2 x j
def dX.on(c:Kd):dX->Prop
 |.row _ j _=>∀r∈j,V.xx c r=true
 |.map A=>∀e∈A,V.on c e.1=true/\V.on c e.2=true
 |_=>True
def dX.kf:dX->Bool
 |.tok _=>true
 |_=>false
structure Same(c:Kd)(g g1:Gh)(h h1:bw):Prop where
 F:g1.F=g.F
 U:∀k,(c k).isSome=true->g.U k=true->g1.U k=true
 σ:∀k,c k=some false->g1.σ k=g.σ k
 τ:∀k n,(c k).isSome=true->h1 k=some (.tok n)->h k=some (.tok n)/\g1.τ k=g.τ k
def GV.same{c:Kd}{N:Gh}{D:bw}(C:Same c g N h D)(Y:GV g h w x v)(A:x.on c=true):GV N D w x v:=by
 have M:∀k,(c k==some false)=true->c k=some false/\(c k).isSome=true:=fun k h=>by
  have:c k=some false:=by simpa using h
  exact⟨this,by rw[this];rfl⟩
 induction Y with
 |d x v J=>exact .d x v (C.F▸J)
 |p k i j b sz E B=>have:=M k A;exact .p k i j b sz (C.U k this.2 E) ((C.σ k this.1).trans B)
 |t k e sz O v E J Z=>
  have A:(c k).isSome=true:=A;refine .t k e sz O v (C.U k A E) (C.F▸J) fun m Q=>?_;obtain⟨h0,R⟩:=C.τ k m A Q;have D:=Z m h0;refine⟨D.1,fun he=>?_⟩;cases D.2 he with
  |nil=>exact .nil _ _
  |full=>exact .full _ _
  |here b S n c N X g3=>exact .here b S n c (R.trans N) (by rw[C.F];exact X) g3
 |vn k E B=>have:=M k A;exact .vn k (C.U k this.2 E) ((C.σ k this.1).trans B)
 |ve k T a E=>have:=M k A;exact .ve k T a (C.U k this.2 E)
 |v k T m b sz cap c t fz E B hb hc Q=>have:=M k A;exact .v k T m b sz cap c t fz (C.U k this.2 E) ((C.σ k this.1).trans B) hb hc Q
 |g cells L H W J ih=>
  have A:V.xx c cells=true:=by simpa[V.on]using A
  exact .g cells L H W fun i x v D P=>ih i x v D P (V.oQ A x (List.mem_of_getElem? D))
 |a cells L H W J=>exact .a cells L H W (C.F▸J)
 |tu cells L H J ih=>
  have A:V.xx c cells=true:=by simpa[V.on]using A
  exact .tu cells L H fun i x v D P=>ih i x v D P (V.oQ A x (List.mem_of_getElem? D))
 |f fn first I L us D P N X i1 i2=>
  have A:V.xx c first=true/\V.xx c I=true:=by simpa[V.on]using A
  exact .f fn first I L us D P (fun i x v a b=>i1 i x v a b (V.oQ A.1 x (List.mem_of_getElem? a))) (fun i x v a b=>i2 i x v a b (V.oQ A.2 x (List.mem_of_getElem? a)))
 |m k b sz E B=>have:=M k A;exact .m k b sz (C.U k this.2 E) ((C.σ k this.1).trans B)
 |it k b sz E B=>have:=M k A;exact .it k b sz (C.U k this.2 E) ((C.σ k this.1).trans B)
def GL.same{c:Kd}{g A:Gh}{h B:bw}{w:World}(E:Same c g A h B){j:List V}{C:List Value}(D:GL g h w j C)(H:V.xx c j=true):GL A B w j C:=
 ⟨D.len,fun i x v a b=>(D.at_ i x v a b).same E (V.oQ H x (List.mem_of_getElem? a))⟩
def jP.same{c:Kd}{g Q:Gh}{h R:bw}{w:World}{k:Nat}{o:dX}(B:Same c g Q h R)(S:jP g h w k o)(J:c k=some (o.kf))(M:o.on c):jP Q R w k o:=by
 cases S with
 |nilvec sz A=>exact .nilvec sz ((B.σ k J).trans A)
 |row sz D N b T t A E W X Y Z hone L=>exact .row sz D N b T t ((B.σ k J).trans A) E (by rw[B.F];exact W) X Y Z hone fun i r j x v C H a3=>(L i r j x v C H a3).same B (V.oQ (M r (List.mem_of_getElem? C)) x (List.mem_of_getElem? H))
 |tok m=>exact .tok m
 |it s pos b sz bs A E O=>exact .it s pos b sz bs ((B.σ k J).trans A) E O
 |map es b sz I clock A E P L=>exact .map es b sz I clock ((B.σ k J).trans A) E P fun i x e C H=>⟨(L i x e C H).1.same B (M x (List.mem_of_getElem? C)).1,(L i x e C H).2.same B (M x (List.mem_of_getElem? C)).2⟩
end
section
variable[de]
def Gh.on(g:Gh)(c:Kd):Gh:=⟨fun k=>if c k=some false then g.σ k else none,fun k=>if c k=some true then g.τ k else none,g.F,fun k=>g.U k&&(c k).isSome⟩
def NW(h:bw)(c:Kd):bw:=fun k=>if(c k).isSome then h k else none
structure DM(c:Kd)(h:bw):Prop where
 at_:∀k b,c k=some b->∃o,h k=some o/\o.kf=b
 on:∀k o,(c k).isSome=true->h k=some o->o.on c
def DM.kind{c:Kd}{h:bw}(C:DM c h){o:dX}(j:(c k).isSome=true)(D:h k=some o):c k=some o.kf:=by
 cases A:c k with
 |none=>rw[A]at j;cases j
 |some b=>obtain⟨H,B,E⟩:=C.at_ k b A;rw[D]at B;cases B;rw[E]
def LW{c:Kd}{g:Gh}{h:bw}(d:DM c h):Same c g (g.on c) h (NW h c) where
 F:=rfl
 U:=fun k a b=>by simp[Gh.on,a,b]
 σ:=fun k a=>by simp[Gh.on,a]
 τ:=fun k n a b=>by
  have b:h k=some (.tok n):=by simpa[NW,a]using b
  refine⟨b,?_⟩;have:=d.kind a b;simp[Gh.on,this,dX.kf]
def lS{g:Gh}{h:bw}{o:dX}(d:h k=some o)(a:if o.kf then g.τ k=some b else∃sz,g.σ k=some (b,sz)):dJ g h k=some b:=by
 unfold dJ;rw[d];cases o with
 |tok n=>simpa[dX.kf]using a
 |_=>obtain⟨sz,a⟩:=(by simpa[dX.kf]using a:∃sz,g.σ k=some (b,sz));simp[a]
def tZ{g:Gh}{h:bw}(a:dJ g h k=some b):∃o,h k=some o/\if o.kf then g.τ k=some b else∃sz,g.σ k=some (b,sz):=by
 unfold dJ at a;split at a
 .next n e=>exact⟨_,e,by simpa[dX.kf]using a⟩
 .next o f e=>
  refine⟨o,e,?_⟩;have:o.kf=false:=by
   cases o with
   |tok n=>exact absurd rfl (f n)
   |_=>rfl
  rw[this];cases d:g.σ k with
  |none=>rw[d]at a;cases a
  |some p=>rw[d]at a;obtain⟨i,sz⟩:=p;cases a;exact⟨sz,rfl⟩
 .cases a
def DN{g:Gh}{h:bw}(d:dJ g h k=some b):nM g b:=by
 obtain⟨o,e,a⟩:=tZ d;split at a
 .exact⟨k,.inr a⟩
 .obtain⟨sz,a⟩:=a;exact⟨k,.inl ⟨sz,a⟩⟩
def vH{c:Kd}{g:Gh}{h:bw}(f:DM c h)(hb:nM (g.on c) b):∃j,(c j).isSome=true/\dJ g h j=some b:=by
 obtain⟨j,hb⟩:=hb;rcases hb with⟨sz,hb⟩|hb
 .simp only[Gh.on]at hb;split at hb
  .next e=>obtain⟨o,a,d⟩:=f.at_ j _ e;exact⟨j,by rw[e];rfl,lS a (by rw[d];exact⟨sz,hb⟩)⟩
  .cases hb
 .simp only[Gh.on]at hb;split at hb
  .next e=>obtain⟨o,a,d⟩:=f.at_ j _ e;exact⟨j,by rw[e];rfl,lS a (by rw[d];exact hb)⟩
  .cases hb
def Rel.on{c:Kd}{g:Gh}{h:bw}{w:World}(D:Rel g h w)(E:DM c h):Rel (g.on c) (NW h c) w where
 lO:=D.lO
 inj:=fun k O b J M=>by
  have H:∀k,dJ (g.on c) (NW h c) k=some b->dJ g h k=some b:=fun k A=>by
   obtain⟨o,B,A⟩:=tZ A;have I:(c k).isSome=true/\h k=some o:=by
    unfold NW at B;split at B
    .next e=>exact⟨e,B⟩
    .cases B
   have C:=E.kind I.1 I.2;refine lS I.2 ?_;cases L:o.kf with
   |true=>rw[L]at A C;simpa[Gh.on,C]using A
   |false=>rw[L]at A C;simpa[Gh.on,C]using A
  exact D.inj k O b (H k J) (H O M)
 lt:=fun b A=>by obtain⟨j,_,M⟩:=vH E A;exact D.lt b (DN M)
 fresh:=D.fresh
 top:=fun k I=>by
  by_cases e:(c k).isSome=true
  .have:g.U k=false:=by simpa[Gh.on,e]using I
   have L:=D.top k this;cases A:c k with
   |none=>rw[A]at e;cases e
   |some b=>obtain⟨o,J,_⟩:=E.at_ k b A;rw[L.1]at J;cases J
  .have:c k=none:=by simpa using e
   simp[NW,Gh.on,this]
 obj:=fun k o B=>by
  unfold NW at B;split at B
  .next e=>exact(D.obj k o B).same (LW E) (E.kind e B) (E.on k o e B)
  .cases B
def LX{c:Kd}{g:Gh}{h:bw}{w:World}(f:Rel g h w)(i:DM c h)(a:(c k).isSome=true):g.U k=true:=by
 cases j:g.U k with
 |true=>rfl
 |false=>
  have l:=f.top k j;cases d:c k with
  |none=>rw[d]at a;cases a
  |some b=>obtain⟨o,e,_⟩:=i.at_ k b d;rw[l.1]at e;cases e
def Gh.lU(g g':Gh)(c:Kd)(N:Nat->Bool):Gh:=
 ⟨fun k=>if c k=some true then g.σ k else if N k then g'.σ k else g.σ k,fun k=>if c k=some false then g.τ k else if N k then g'.τ k else g.τ k,g'.F,fun k=>if N k then g'.U k else g.U k⟩
def pM(h h':bw)(N:Nat->Bool):bw:=fun k=>if N k then h' k else h k
structure Mix(c c1:Kd)(N:Nat->Bool)(g:Gh)(h':bw):Prop where
 old:∀k,(c k).isSome=true->N k=true
 new:∀k,g.U k=true->N k=true->(c k).isSome=true
 h:∀k o,h' k=some o->N k=true/\c1 k=some o.kf/\o.on c1
 c1:∀k b,c1 k=some b->∃o,h' k=some o/\o.kf=b
 kd:∀k o b,h' k=some o->c k=some b->o.kf=b
section
variable{c c1:Kd}{N:Nat->Bool}{g g':Gh}{h h':bw}{w w':World}
def Gs(a:Mix c c1 N g h'):Same c1 g' (g.lU g' c N) h' (pM h h' N) where
 F:=rfl
 U:=fun k d f=>by
  cases j:c1 k with
  |none=>rw[j]at d;cases d
  |some b=>obtain⟨o,i,_⟩:=a.c1 k b j;simp[Gh.lU,(a.h k o i).1,f]
 σ:=fun k d=>by
  obtain⟨o,i,l⟩:=a.c1 k _ d;have:c k≠some true:=fun e=>by have:=a.kd k o _ i e;rw[l]at this;cases this
  simp[Gh.lU,this,(a.h k o i).1]
 τ:=fun k n d f=>by
  cases j:c1 k with
  |none=>rw[j]at d;cases d
  |some b=>
   obtain⟨o,i,l⟩:=a.c1 k b j;have m:=(a.h k o i).1;have f:h' k=some (.tok n):=by simpa[pM,m]using f
   refine⟨f,?_⟩;have:c k≠some false:=fun e=>by have:=a.kd k _ _ f e;cases this
   simp[Gh.lU,this,m]
def Ext.lU(X:Rel g h w)(Q:DM c h)(R:Mix c c1 N g h')(C:Ext (g.on c) (NW h c) w g' h' w'):Ext g h w (g.lU g' c N) (pM h h' N) w' where
 n:=fun k E=>by
  by_cases e:N k=true
  .have:=R.new k E e;have:=C.n k (by simp[Gh.on,E,this]);simp[Gh.lU,e,this]
  .simp[Gh.lU,e,E]
 size:=C.size
 os:=C.os
 tape:=C.tape
 output:=C.output
 stays:=C.stays
 out:=fun b hb ho=>C.out b hb fun D=>by obtain⟨j,_,h2⟩:=vH Q D;exact ho (DN h2)
 own:=fun b ⟨k,hb⟩=>by
  have I:nM g' b->nM g b\/w.heap.size<=b:=fun D=>by
   rcases C.own b D with h2|h2
   .obtain⟨j,_,V⟩:=vH Q h2;exact .inl (DN V)
   .exact .inr h2
  rcases hb with⟨sz,hb⟩|hb
  .simp only[Gh.lU]at hb;split at hb
   .exact .inl ⟨k,.inl ⟨sz,hb⟩⟩
   .split at hb
    .exact I ⟨k,.inl ⟨sz,hb⟩⟩
    .exact .inl ⟨k,.inl ⟨sz,hb⟩⟩
  .simp only[Gh.lU]at hb;split at hb
   .exact .inl ⟨k,.inr hb⟩
   .split at hb
    .exact I ⟨k,.inr hb⟩
    .exact .inl ⟨k,.inr hb⟩
 sig:=fun k E=>by
  simp only[Gh.lU];split
  .rfl
  .next e=>
   split
   .next H=>
    have A:=R.new k E H;have:=C.sig k (by simp[Gh.on,E,A]);rw[this];cases hb:c k with
    |none=>rw[hb]at A;cases A
    |some b=>cases b with
     |true=>exact absurd hb e
     |false=>simp[Gh.on,hb]
   .rfl
 tok:=fun k E S B=>by
  by_cases H:N k=true
  .have A:=R.new k E H;have B:h' k=some (.tok S):=by simpa[pM,H]using B
   obtain⟨Y,T,D⟩:=C.tok k (by simp[Gh.on,E,A]) S B;have T:h k=some (.tok Y):=by simpa[NW,A]using T
   have J:=Q.kind A T;have L:(g.on c).τ k=g.τ k:=by simp[Gh.on,J,dX.kf]
   have M:(g.lU g' c N).τ k=g'.τ k:=by simp[Gh.lU,J,dX.kf,H]
   refine⟨Y,T,?_⟩;rcases D with D|⟨D,h2,V⟩
   .exact .inl D
   .exact .inr ⟨D,by rw[M,h2,L],fun b hb=>V b (L.trans hb)⟩
  .have B:h k=some (.tok S):=by simpa[pM,H]using B
   have O:c k=none:=by
    cases hb:c k with
    |none=>rfl
    |some b=>exact absurd (R.old k (by rw[hb];rfl)) H
   refine⟨S,B,.inr ⟨rfl,by simp[Gh.lU,O,H],fun b hb=>?_⟩⟩;have P:=lS B (by simpa[dX.kf]using hb);have:=C.out b (X.lt b (DN P)) fun D=>by
    obtain⟨j,Z,h2⟩:=vH Q D;have:=X.inj _ _ _ P h2;subst this;rw[O]at Z;cases Z
   exact⟨this.2,fun⟨cc,t,W⟩=>⟨cc,t,this.1.trans W⟩⟩
end
end
section
variable[de]
section
variable{c c1:Kd}{N:Nat->Bool}{g g':Gh}{h h':bw}{w w':World}
def DO(a:Mix c c1 N g h')(e:¬N k=true):c k=none:=by
 cases d:c k with
 |none=>rfl
 |some b=>exact absurd (a.old k (by rw[d];rfl)) e
def LY(i:Mix c c1 N g h')(d:dJ (g.lU g' c N) (pM h h' N) k=some b):(N k=true/\dJ g' h' k=some b)\/(¬N k=true/\dJ g h k=some b):=by
 obtain⟨o,a,d⟩:=tZ d;by_cases e:N k=true
 .refine .inl ⟨e,?_⟩;have a:h' k=some o:=by simpa[pM,e]using a
  refine lS a ?_;cases f:o.kf with
  |true=>
   rw[f]at d;have:c k≠some false:=fun e=>by have:=i.kd k _ _ a e;rw[f]at this;cases this
   simpa[Gh.lU,this,e]using d
  |false=>
   rw[f]at d;have:c k≠some true:=fun e=>by have:=i.kd k _ _ a e;rw[f]at this;cases this
   simpa[Gh.lU,this,e]using d
 .refine .inr ⟨e,?_⟩;have a:h k=some o:=by simpa[pM,e]using a
  have j:=DO i e;refine lS a ?_;simpa[Gh.lU,j,e]using d
def Rel.lU(H:Rel g h w)(hc:DM c h)(P:Mix c c1 N g h')(V:Ext (g.on c) (NW h c) w g' h' w')(A:Rel g' h' w'):Rel (g.lU g' c N) (pM h h' N) w':=by
 have hx:=Ext.lU H hc P V;have apart:∀k S b,N k=true->dJ g' h' k=some b->¬N S=true->dJ g h S=some b->False:=fun k S b T W h3 h4=>by
  rcases V.own b (xK W)with h5|h5
  .obtain⟨j,h6,h7⟩:=vH hc h5;have:=H.inj _ _ _ h4 h7;subst this;rw[DO P h3]at h6;cases h6
  .have:=H.lt b (xK h4);omega
 refine⟨fun k sz C hk=>A.lO k sz C hk,fun k S b T W=>?_,fun b ⟨k,hb⟩=>?_,A.fresh,fun k hk=>?_,fun k o Q=>?_⟩
 .rcases LY P T with⟨R,I⟩|⟨R,I⟩<;>rcases LY P W with⟨b1,X⟩|⟨b1,X⟩
  .exact A.inj _ _ _ I X
  .exact(apart k S b R I b1 X).elim
  .exact(apart S k b b1 X R I).elim
  .exact H.inj _ _ _ I X
 .have J:nM g b->b<w'.heap.size:=fun T=>Nat.lt_of_lt_of_le (H.lt b T) V.size;rcases hb with⟨sz,hb⟩|hb
  .simp only[Gh.lU]at hb;split at hb
   .exact J ⟨k,.inl ⟨sz,hb⟩⟩
   .split at hb
    .exact A.lt b ⟨k,.inl ⟨sz,hb⟩⟩
    .exact J ⟨k,.inl ⟨sz,hb⟩⟩
  .simp only[Gh.lU]at hb;split at hb
   .exact J ⟨k,.inr hb⟩
   .split at hb
    .exact A.lt b ⟨k,.inr hb⟩
    .exact J ⟨k,.inr hb⟩
 .by_cases e:N k=true
  .have hu:g'.U k=false:=by simpa[Gh.lU,e]using hk
   have Y:=A.top k hu;have L:c k=none:=by
    cases hb:c k with
    |none=>rfl
    |some b=>
     have B:(c k).isSome=true:=by rw[hb];rfl
     have:=V.n k (by simp[Gh.on,LX H hc B,B]);rw[hu]at this;cases this
   simp[pM,Gh.lU,e,L,Y]
  .have hu:g.U k=false:=by simpa[Gh.lU,e]using hk
   have Y:=H.top k hu;simp[pM,Gh.lU,e,DO P e,Y]
 .by_cases e:N k=true
  .have Q:h' k=some o:=by simpa[pM,e]using Q
   have:=P.h k o Q;exact(A.obj k o Q).same (Gs P) this.2.1 this.2.2
  .have Q:h k=some o:=by simpa[pM,e]using Q
   have L:=DO P e;have M:(g.lU g' c N).σ k=g.σ k:=by simp[Gh.lU,L,e]
   have D:∀b sz,g.σ k=some (b,sz)->o.kf=false->w'.heap[b]? =w.heap[b]? /\g'.F b=g.F b:=fun b sz hb Y=>by
    have Z:=lS Q (by rw[Y];exact⟨sz,hb⟩);refine V.out b (H.lt b (xK Z)) fun T=>?_;obtain⟨j,hj,W⟩:=vH hc T;have:=H.inj _ _ _ Z W;subst this;rw[L]at hj;cases hj
   cases H.obj k o Q with
   |nilvec sz B=>exact .nilvec sz (M.trans B)
   |row sz C a5 b cc t B E hF a9 em hv hone O=>
    have:=D b sz B rfl;exact .row sz C a5 b cc t (M.trans B) (this.1.trans E) (this.2.trans hF) a9 em hv hone fun i r j x v R I a3=>(O i r j x v R I a3).ext hx
   |tok m=>exact .tok m
   |it s pos b sz bs B E eq=>exact .it s pos b sz bs (M.trans B) ((D b sz B rfl).1.trans E) eq
   |map es b sz am clock B E ge O=>exact .map es b sz am clock (M.trans B) ((D b sz B rfl).1.trans E) ge fun i x e R I=>⟨(O i x e R I).1.ext hx,(O i x e R I).2.ext hx⟩
end
end
section
variable[de]
def LZ{c:bw}(d:Rel g h w)(q:∀k,c k=h k\/c k=none):Rel g c w/\Ext g h w g c w:=by
 have up:∀k o,c k=some o->h k=some o:=fun k o a=>by
  rcases q k with h2|h2
  .rw[<-h2];exact a
  .rw[h2]at a;cases a
 have l:Ext g h w g c w:={
  n:=fun _ h=>h
  size:=ae _
  os:=rfl
  tape:=rfl
  output:=rfl
  stays:=jt.refl _ _
  out:=fun _ _ _=>⟨rfl,rfl⟩
  own:=fun _ h=>.inl h
  sig:=fun _ _=>rfl
  tok:=fun j _ r f=>⟨r,up _ _ f,.inr ⟨rfl,rfl,fun _ _=>⟨rfl,id⟩⟩⟩}
 refine⟨⟨d.lO,fun k m b h2 s=>?_,d.lt,d.fresh,fun k p=>⟨?_,(d.top k p).2⟩,fun k o a=>?_⟩,l⟩
 .have e:∀k,dJ g c k=some b->dJ g h k=some b:=fun k i=>by
   obtain⟨o,a,i⟩:=tZ i;exact lS (up k o a) i
  exact d.inj k m b (e k h2) (e m s)
 .cases a:c k with
  |none=>rfl
  |some o=>have:=up k o a;rw[(d.top k p).1]at this;cases this
 .exact(d.obj k o (up k o a)).ext l (d.used (up k o a)) fun _ _ _=>⟨rfl,rfl⟩
abbrev HL:=List (Nat×dX)
def dx(l:HL)(k:Nat):Option dX:=List.rec none (fun p _ ih=>Prod.rec (fun j o=>Bool.rec ih (some o) (Nat.beq j k)) p) l
def dR(p:Nat×dX)(l:HL)(k:Nat):dx (p::l) k=if k=p.1 then some p.2 else dx l k:=by
 obtain⟨j,o⟩:=p;show(Bool.rec (dx l k) (some o) (Nat.beq j k):Option dX)=_;rw[lj];by_cases e:j=k
 .simp[e]
 .rw[aA e,if_neg (Ne.symm e)]
def lZ{l:HL}{o:dX}(h:dx l k=some o):(k,o)∈l:=by
 induction l with
 |nil=>cases h
 |cons p l ih=>
  rw[dR]at h;split at h
  .next e=>cases h;subst e;exact eH
  .exact di _ (ih h)
def si(K:HL):Kd:=fun k=>(dx K k).map dX.kf
def qq{K:HL}{b:Bool}(h:si K k=some b):∃o,dx K k=some o/\o.kf=b:=by
 unfold si at h;cases a:dx K k with
 |none=>rw[a]at h;cases h
 |some o=>rw[a]at h;cases h;exact⟨o,rfl,rfl⟩
def DP{K:HL}(h:(si K k).isSome=true):∃o,dx K k=some o:=by
 cases a:si K k with
 |none=>rw[a]at h;cases h
 |some b=>obtain⟨o,c,_⟩:=qq a;exact⟨o,c⟩
def vI{K:HL}{o:dX}(h:dx K k=some o):si K k=some o.kf:=by unfold si;rw[h];rfl
def NX(K:HL)(n a:Nat)(k:Nat):Bool:=Option.rec (Nat.ble n k&&Nat.blt k a) (fun _=>true) (dx K k)
def yF{K:HL}{n a:Nat}{o:dX}(h:dx K k=some o):NX K n a k=true:=by unfold NX;rw[h]
def qt{K:HL}{n a:Nat}(h:dx K k=none):NX K n a k=true↔n<=k/\k<a:=by
 unfold NX;rw[h];simp
def JJ(B:Rel g h w){K K1:HL}{n n1 n2:Nat}{h1:bw}
 (D:∀k o,dx K k=some o->h k=some o)(E:∀k o,dx K k=some o->o.on (si K))(i:V.xx (si K) args=true)(p:∀k o,dx K k=some o->k<n)
 (j:∀k,n<=k->k<n2->g.U k=false)
 (F:AC P f args (dx K) n fun x O Q=>x=r/\O=h1/\Q=n1)
 (G:∀k,dx K1 k=h1 k\/dx K1 k=none)(q:∀k o,dx K1 k=some o->o.on (si K1))(H:V.on (si K1) r=true)
 (I:∀k o,dx K1 k=some o->NX K n n2 k=true)(J:∀k o l,dx K1 k=some o->dx K k=some l->o.kf=l.kf)
 {L:List Value}(M:GL g h w args L):
 Calls P f L.toArray w fun e s=>∃v C,e=.returned v/\GV C (pM h (dx K1) (NX K n n2)) s r v/\Rel C (pM h (dx K1) (NX K n n2)) s/\Ext g h w C (pM h (dx K1) (NX K n n2)) s/\
  ∀k,C.U k=true->g.U k=true\/(n<=k/\k<n2):=by
 have t:DM (si K) h:=⟨fun k b u=>by obtain⟨o,a,y⟩:=qq u;exact⟨o,D k o a,y⟩,fun k o m c=>by
  obtain⟨l,a⟩:=DP m;have:=D k l a;rw[c]at this;cases this;exact E k o a⟩
 have z:NW h (si K)=dx K:=by
  funext k
  unfold NW;split
  .next e=>obtain⟨o,a⟩:=DP e;rw[a];exact D k o a
  .next e=>
   cases c:dx K k with
   |none=>rfl
   |some o=>rw[vI c]at e;exact absurd rfl e
 have A:=B.on t;have d:=M.same (LW (g:=g) t) i;rw[z]at A d;refine(F (g.on (si K)) w L A (fun k m=>?_) d).mono fun e s ⟨v,x,O,Q,R,Y,⟨ex,Z,en⟩,k3,k4,k5,k6⟩=>?_
 .cases S:(si K k).isSome with
  |false=>simp[Gh.on,S]
  |true=>obtain⟨o,a⟩:=DP S;have:=p k o a;omega
 .subst ex;subst Z;subst en;obtain⟨s1,T⟩:=LZ k4 G;have W:Ext (g.on (si K)) (NW h (si K)) w R (dx K1) s:=by rw[z];exact k6.trans T
  have N:Mix (si K) (si K1) (NX K n n2) g (dx K1):={
   old:=fun k m=>by obtain⟨o,a⟩:=DP m;exact yF a
   new:=fun k a y=>by
    cases c:dx K k with
    |some o=>rw[vI c];rfl
    |none=>have:=(qt c).1 y;rw[j k this.1 this.2]at a;cases a
   h:=fun k o c=>⟨I k o c,vI c,q k o c⟩
   c1:=fun k b u=>qq u
   kd:=fun k o b c u=>by obtain⟨l,a,y⟩:=qq u;rw[J k o l c a,y]}
  refine⟨v,g.lU R (si K) (NX K n n2),Y,(k3.ext T).same (Gs N) H,B.lU t N W s1,Ext.lU B t N W,fun k m=>?_⟩;by_cases X:NX K n n2 k=true
  .cases c:dx K k with
   |some o=>exact .inl (LX B t (by rw[vI c];rfl))
   |none=>exact .inr ((qt c).1 X)
  .have:g.U k=true:=by simpa[Gh.lU,X]using m
   exact .inl this
end
section
variable[de]
inductive Rs(α:Type) where
 |ok(a:α)
 |no(l:List Nat)
def rb{α β:Type}(r:Rs α)(f:α->Rs β):Rs β:=Rs.rec f (fun l=>.no l) r
def pN{α:Type}(t:Nat)(r:Rs α):Rs α:=Rs.rec (fun a=>.ok a) (fun l=>.no (t::l)) r
def ro{α β:Type}(c:Nat)(x:Option α)(f:α->Rs β):Rs β:=Option.rec (.no [c]) f x
def BY{α:Type}(c:Nat)(b:Bool)(r:Rs α):Rs α:=Bool.rec (.no [c]) r b
def kM{α β:Type}{r:Rs α}{f:α->Rs β}{y:β}(h:rb r f=.ok y):∃a,r=.ok a/\f a=.ok y:=by
 cases r with
 |ok a=>exact⟨a,rfl,h⟩
 |no l=>cases h
def l4{α:Type}{t:Nat}{r:Rs α}{y:α}(h:pN t r=.ok y):r=.ok y:=by
 cases r with
 |ok a=>exact h
 |no l=>cases h
def iH{α β:Type}{c:Nat}{x:Option α}{f:α->Rs β}{y:β}(h:ro c x f=.ok y):∃a,x=some a/\f a=.ok y:=by
 cases x with
 |some a=>exact⟨a,rfl,h⟩
 |none=>cases h
def kQ{α:Type}{c:Nat}{b:Bool}{r:Rs α}{y:α}(h:BY c b r=.ok y):b=true/\r=.ok y:=by
 cases b with
 |true=>exact⟨rfl,h⟩
 |false=>cases h
def Gt(x:V):List Nat->List Nat:=V.rec (motive_1:=fun _=>List Nat->List Nat) (motive_2:=fun _=>List Nat->List Nat)
 (fun _ a=>a) (fun k _ _ a=>k::a) (fun k _ _ _ a=>k::a) (fun k _ _ a=>k::a) (fun _ ih a=>ih a) (fun _ a=>a) (fun _ ih a=>ih a) (fun _ _ _ b c a=>b (c a)) (fun k a=>k::a) (fun k a=>k::a)
 (fun a=>a) (fun _ _ b c a=>b (c a)) x
def UM(l:List V):List Nat->List Nat:=List.rec (fun a=>a) (fun x _ ih a=>Gt x (ih a)) l
def abx(l:List (List V)):List Nat->List Nat:=List.rec (fun a=>a) (fun x _ ih a=>UM x (ih a)) l
def aby(l:List (V×V)):List Nat->List Nat:=List.rec (fun a=>a) (fun x _ ih a=>Gt x.1 (Gt x.2 (ih a))) l
def aao(o:dX):List Nat->List Nat:=dX.rec (fun _ b _=>abx b) (fun _ a=>a) (fun _ _ a=>a) (fun c=>aby c) o
def reach(h:HL)(b:Nat):List Nat->HL->HL:=
 Nat.rec (fun _ a=>a) (fun _ ih c a=>List.rec a (fun k r _=>Option.rec (Option.rec (ih r a) (fun o=>ih (aao o r) ((k,o)::a)) (dx h k)) (fun _=>ih r a) (dx a k)) c) b
def kR{h:HL}:∀(d:Nat) (f:List Nat) (a:HL),(∀k o,dx a k=some o->dx h k=some o)->∀k o,dx (reach h d f a) k=some o->dx h k=some o
 |0,f,a,c,k,o,b=>c k o b
 |n+1,[],a,c,k,o,b=>c k o b
 |n+1,j::r,a,c,k,o,b=>by
  have b:dx (Option.rec (Option.rec (reach h n r a) (fun o=>reach h n (aao o r) ((j,o)::a)) (dx h j)) (fun _=>reach h n r a) (dx a j)) k=some o:=b;cases g:dx a j with
  |some q=>rw[g]at b;exact kR n r a c k o b
  |none=>
   rw[g]at b;cases hq:dx h j with
   |none=>simp only[hq]at b;exact kR n r a c k o b
   |some q=>
    simp only[hq]at b;refine kR n _ _ (fun k o b=>?_) k o b;rw[dR]at b;split at b
    .next e=>cases b;rw[e];exact hq
    .exact c k o b
def Uj(K:HL)(k:Nat):Bool:=Option.rec false (fun o=>dX.rec (fun _ _ _=>true) (fun _=>false) (fun _ _=>true) (fun _=>true) o) (dx K k)
def isT(K:HL)(k:Nat):Bool:=Option.rec false (fun _=>true) (dx K k)
def UN(K:HL)(x:V):Bool:=V.rec (motive_1:=fun _=>Bool) (motive_2:=fun _=>Bool)
 (fun _=>true) (fun k _ _=>Uj K k) (fun k _ _ _=>isT K k) (fun k _ _=>Uj K k) (fun _ ih=>ih) (fun _=>true) (fun _ ih=>ih) (fun _ _ _ a b=>Bool.rec false b a) (fun k=>Uj K k) (fun k=>Uj K k)
 true (fun _ _ a b=>Bool.rec false b a) x
def NY(K:HL)(l:List V):Bool:=List.rec true (fun x _ ih=>Bool.rec false ih (UN K x)) l
def aap(K:HL)(l:List (List V)):Bool:=List.rec true (fun x _ ih=>Bool.rec false ih (NY K x)) l
def aaq(K:HL)(l:List (V×V)):Bool:=List.rec true (fun x _ ih=>Bool.rec false (Bool.rec false ih (UN K x.2)) (UN K x.1)) l
def onO(K:HL)(o:dX):Bool:=dX.rec (fun _ a _=>aap K a) (fun _=>true) (fun _ _=>true) (fun b=>aaq K b) o
def DQ{K:HL}(h:Uj K k=true):(si K k==some false)=true:=by
 unfold Uj at h;cases a:dx K k with
 |none=>rw[a]at h;cases h
 |some o=>rw[a]at h;rw[vI a];cases o<;>first|rfl|cases h
def Yl{K:HL}(h:isT K k=true):(si K k).isSome=true:=by
 unfold isT at h;cases a:dx K k with
 |none=>rw[a]at h;cases h
 |some o=>rw[vI a];rfl
def ic{a b:Bool}(h:(Bool.rec false b a:Bool)=true):a=true/\b=true:=by
 cases a with
 |true=>exact⟨rfl,h⟩
 |false=>cases h
def qu(K:HL):∀l:List V,(V.rec_1 (motive_1:=fun _=>Bool) (motive_2:=fun _=>Bool)
 (fun _=>true) (fun k _ _=>Uj K k) (fun k _ _ _=>isT K k) (fun k _ _=>Uj K k) (fun _ ih=>ih) (fun _=>true) (fun _ ih=>ih) (fun _ _ _ a b=>Bool.rec false b a) (fun k=>Uj K k) (fun k=>Uj K k)
 true (fun _ _ a b=>Bool.rec false b a) l:Bool)=NY K l
 |[]=>rfl
 |x::l=>by
  show(Bool.rec false _ (UN K x):Bool)=Bool.rec false (NY K l) (UN K x);rw[qu K l]
def yG{K:HL}(x:V):UN K x=true->V.on (si K) x=true:=by
 refine V.rec (motive_1:=fun x=>UN K x=true->V.on (si K) x=true) (motive_2:=fun l=>NY K l=true->V.xx (si K) l=true) ?_ ?_ ?_ ?_ ?_ ?_ ?_ ?_ ?_ ?_ ?_ ?_ x
 .intro d _;simp[V.on]
 .intro k i j h;simp only[V.on];exact DQ h
 .intro k e sz o h;simp only[V.on];exact Yl h
 .intro k p n h;simp only[V.on];exact DQ h
 .intro l ih h;simp only[V.on];exact ih (by rw[<-qu];exact h)
 .intro l _;simp[V.on]
 .intro l ih h;simp only[V.on];exact ih (by rw[<-qu];exact h)
 .intro fn a b c f h;obtain⟨g,m⟩:=ic h;simp only[V.on,ax];exact⟨c (by rw[<-qu];exact g),f (by rw[<-qu];exact m)⟩
 .intro k h;simp only[V.on];exact DQ h
 .intro k h;simp only[V.on];exact DQ h
 .intro _;simp[V.xx]
 .intro x l c f h;obtain⟨g,m⟩:=ic h;simp only[V.xx,ax];exact⟨c g,f m⟩
def DR{K:HL}:∀{l:List V},NY K l=true->V.xx (si K) l=true
 |[],_=>by simp[V.xx]
 |x::l,h=>by
  obtain⟨a,b⟩:=ic h;simp only[V.xx,ax];exact⟨yG x a,DR b⟩
def L0{K:HL}:∀{a:List (List V)},aap K a=true->∀r∈a,V.xx (si K) r=true
 |[],_,r,b=>by cases b
 |x::l,h,r,b=>by
  obtain⟨c,d⟩:=ic h;rcases aw.1 b with rfl|b
  .exact DR c
  .exact L0 d r b
def L1{K:HL}:∀{c:List (V×V)},aaq K c=true->∀e∈c,V.on (si K) e.1=true/\V.on (si K) e.2=true
 |[],_,r,a=>by cases a
 |x::l,h,r,a=>by
  obtain⟨d,b⟩:=ic h;obtain⟨b,f⟩:=ic b;rcases aw.1 a with rfl|a
  .exact⟨yG _ d,yG _ b⟩
  .exact L1 f r a
def QU{K:HL}{o:dX}(h:onO K o=true):o.on (si K):=by
 cases o with
 |row sz a b=>exact L0 h
 |map c=>exact L1 h
 |tok n=>trivial
 |it s p=>trivial
end
section
variable[de]
mutual
def lK:V->Option V
 |.d x=>some (.d x)
 |.a l=>some (.a l)
 |.t _ _ sz c=>some (.d (.l sz c))
 |.g l=>(iS l).map qf
 |.tu l=>(iS l).map .tu
 |.f fn a b=>match iS a,iS b with
  |some a,some b=>some (mr fn a b)
  |_,_=>none
 |_=>none
def iS:List V->Option (List V)
 |[]=>some []
 |x::l=>match lK x,iS l with
  |some y,some r=>some (y::r)
  |_,_=>none
end
def nQ:∀{l r:List V},iS l=some r->r.length=l.length/\∀(i:Nat) y,r[i]? =some y->∃x,l[i]? =some x/\lK x=some y
 |[],r,h=>by cases h;exact⟨rfl,fun i y h=>by simp at h⟩
 |x::l,r,h=>by
  unfold iS at h;split at h
  .next y f b c=>
   cases h;obtain⟨d,e⟩:=nQ c;refine⟨by simp[d],fun i y a=>?_⟩;cases i with
   |zero=>simp at a;subst a;exact⟨x,rfl,b⟩
   |succ i=>simpa using e i y (by simpa using a)
  .cases h
def NZ(fn:Fn)(a b:List V):(mr fn a b).one=true:=by unfold mr;split<;>rfl
def UO(a:x.one=true)(h:lK x=some y):y.one=true:=by
 cases x<;>simp only[lK,V.one,reduceCtorEq]at a h<;>try(cases h;rfl;done)
 split at h
 .cases h;exact NZ _ _ _
 .cases h
def Ym(I:GV g h w x v):∀{y:V},lK x=some y->GV g h w y v:=by
 induction I with
 |d x v q=>intro y l;simp only[lK]at l;cases l;exact .d x v q
 |p k i j b sz u A=>intro y l;simp[lK]at l
 |t k e sz E v u q Q=>intro y l;simp only[lK]at l;cases l;exact .d _ _ q
 |vn k u A=>intro y l;simp[lK]at l
 |ve k J a u=>intro y l;simp[lK]at l
 |v k J m b sz cap c t R u A F S T=>intro y l;simp[lK]at l
 |g cells r B C q ih=>
  intro y l;simp only[lK]at l;cases s:iS cells with
  |none=>rw[s]at l;cases l
  |some D=>
   rw[s]at l;cases l;obtain⟨G,z⟩:=nQ s;refine GV.norm (.g D r (by omega) (fun y l=>?_) fun i y v n o=>?_)
   .obtain⟨i,K⟩:=List.getElem?_of_mem l;obtain⟨x,a,b⟩:=z i y K;exact UO (C x (List.mem_of_getElem? a)) b
   .obtain⟨x,a,b⟩:=z i y n;exact ih i x v a o b
 |a cells r B C q=>intro y l;simp only[lK]at l;cases l;exact .a cells r B C q
 |tu cells r B q ih=>
  intro y l;simp only[lK]at l;cases s:iS cells with
  |none=>rw[s]at l;cases l
  |some D=>
   rw[s]at l;cases l;obtain⟨G,z⟩:=nQ s;exact .tu D r (by omega) fun i y v n o=>by obtain⟨x,a,b⟩:=z i y n;exact ih i x v a o b
 |f fn first H r L n o U W M N=>
  intro y l;simp only[lK]at l;split at l
  .next a b O F=>
   cases l;obtain⟨G,z⟩:=nQ O;obtain⟨X,P⟩:=nQ F;exact GV.mr (.f fn a b r L (by omega) (by omega) (fun i y v n o=>by obtain⟨x,a,b⟩:=z i y n;exact M i x v a o b) (fun i y v n o=>by obtain⟨x,a,b⟩:=P i y n;exact N i x v a o b))
  .cases l
 |m k b sz u A=>intro y l;simp[lK]at l
 |it k b sz u A=>intro y l;simp[lK]at l
def Gu(fn:Fn)(a b:List V)(c:V.nk 0 a=true)(d:V.nk 0 b=true):V.lt 0 (mr fn a b)=true:=by
 unfold mr;split
 .simp[V.lt]
 .simp[V.lt,c,d]
def JK:(∀x:V,∀y,lK x=some y->V.lt 0 y=true)/\(∀l:List V,∀r,iS l=some r->V.nk 0 r=true):=by
 have f:∀l:List V,V.nk 0 l=true->V.lt 0 (qf l)=true:=fun l h=>by
  unfold qf;split
  .simp[V.lt]
  .simpa[V.lt]using h
 constructor
 .intro x;refine V.rec (motive_1:=fun x=>∀y,lK x=some y->V.lt 0 y=true) (motive_2:=fun l=>∀r,iS l=some r->V.nk 0 r=true) ?_ ?_ ?_ ?_ ?_ ?_ ?_ ?_ ?_ ?_ ?_ ?_ x
  .intro d y h;simp only[lK]at h;cases h;simp[V.lt]
  .intro k i j y h;simp[lK]at h
  .intro k e sz u y h;simp only[lK]at h;cases h;simp[V.lt]
  .intro k v n y h;simp[lK]at h
  .intro l ih y h;simp only[lK]at h;cases c:iS l with
   |none=>rw[c]at h;cases h
   |some r=>rw[c]at h;cases h;exact f r (ih r c)
  .intro l y h;simp only[lK]at h;cases h;simp[V.lt]
  .intro l ih y h;simp only[lK]at h;cases c:iS l with
   |none=>rw[c]at h;cases h
   |some r=>rw[c]at h;cases h;simpa[V.lt]using ih r c
  .intro fn a b g m y h;simp only[lK]at h;split at h
   .next p q o s=>cases h;exact Gu fn p q (g p o) (m q s)
   .cases h
  .intro k y h;simp[lK]at h
  .intro k y h;simp[lK]at h
  .intro r h;simp only[iS]at h;cases h;simp[V.nk]
  .intro x l g m r h;unfold iS at h;split at h
   .next y t o s=>cases h;simp[V.nk,g y o,m t s]
   .cases h
 .intro l;refine V.rec_1 (motive_1:=fun x=>∀y,lK x=some y->V.lt 0 y=true) (motive_2:=fun l=>∀r,iS l=some r->V.nk 0 r=true) ?_ ?_ ?_ ?_ ?_ ?_ ?_ ?_ ?_ ?_ ?_ ?_ l
  .intro d y h;simp only[lK]at h;cases h;simp[V.lt]
  .intro k i j y h;simp[lK]at h
  .intro k e sz u y h;simp only[lK]at h;cases h;simp[V.lt]
  .intro k v n y h;simp[lK]at h
  .intro l ih y h;simp only[lK]at h;cases c:iS l with
   |none=>rw[c]at h;cases h
   |some r=>rw[c]at h;cases h;exact f r (ih r c)
  .intro l y h;simp only[lK]at h;cases h;simp[V.lt]
  .intro l ih y h;simp only[lK]at h;cases c:iS l with
   |none=>rw[c]at h;cases h
   |some r=>rw[c]at h;cases h;simpa[V.lt]using ih r c
  .intro fn a b g m y h;simp only[lK]at h;split at h
   .next p q o s=>cases h;exact Gu fn p q (g p o) (m q s)
   .cases h
  .intro k y h;simp[lK]at h
  .intro k y h;simp[lK]at h
  .intro r h;simp only[iS]at h;cases h;simp[V.nk]
  .intro x l g m r h;unfold iS at h;split at h
   .next y t o s=>cases h;simp[V.nk,g y o,m t s]
   .cases h
def DS{c d:List V}{e:List Value}(f:GL g h w c e)(j:iS c=some d):GL g h w d e:=by
 obtain⟨k,l⟩:=nQ j;exact⟨by rw[f.len,k],fun i y v m n=>by obtain⟨x,a,b⟩:=l i y m;exact Ym (f.at_ i x v a n) b⟩
def DT(x:V):Option V:=V.rec (motive_1:=fun _=>Option V) (motive_2:=fun _=>Option (List V))
 (fun x=>some (.d x)) (fun _ _ _=>none) (fun _ _ sz c=>some (.d (.l sz c))) (fun _ _ _=>none) (fun _ ih=>Option.rec none (fun l=>some (qf l)) ih) (fun l=>some (.a l)) (fun _ ih=>Option.rec none (fun l=>some (.tu l)) ih)
 (fun fn _ _ e f=>Option.rec none (fun a=>Option.rec none (fun b=>some (mr fn a b)) f) e) (fun _=>none) (fun _=>none)
 (some []) (fun _ _ e f=>Option.rec none (fun y=>Option.rec none (fun r=>some (y::r)) f) e) x
def pu(l:List V):Option (List V):=List.rec (some []) (fun x _ ih=>Option.rec none (fun y=>Option.rec none (fun r=>some (y::r)) ih) (DT x)) l
def nR:∀l:List V,(V.rec_1 (motive_1:=fun _=>Option V) (motive_2:=fun _=>Option (List V))
 (fun x=>some (.d x)) (fun _ _ _=>none) (fun _ _ sz c=>some (.d (.l sz c))) (fun _ _ _=>none) (fun _ ih=>Option.rec none (fun l=>some (qf l)) ih) (fun l=>some (.a l)) (fun _ ih=>Option.rec none (fun l=>some (.tu l)) ih)
 (fun fn _ _ e f=>Option.rec none (fun a=>Option.rec none (fun b=>some (mr fn a b)) f) e) (fun _=>none) (fun _=>none)
 (some []) (fun _ _ e f=>Option.rec none (fun y=>Option.rec none (fun r=>some (y::r)) f) e) l:Option (List V))=pu l
 |[]=>rfl
 |x::l=>by
  show(Option.rec none _ (DT x):Option (List V))=Option.rec none (fun y=>Option.rec none (fun r=>some (y::r)) (pu l)) (DT x);rw[nR l]
def UP(x:V):DT x=lK x:=by
 refine V.rec (motive_1:=fun x=>DT x=lK x) (motive_2:=fun l=>pu l=iS l) ?_ ?_ ?_ ?_ ?_ ?_ ?_ ?_ ?_ ?_ ?_ ?_ x
 .intro d;simp only[lK];rfl
 .intro k i j;simp only[lK];rfl
 .intro k e sz g;simp only[lK];rfl
 .intro k h n;simp only[lK];rfl
 .intro l ih;simp only[lK];rw[<-ih,<-nR];show(Option.rec none (fun l=>some (qf l)) _:Option V)=_;generalize (V.rec_1 _ _ _ _ _ _ _ _ _ _ _ _ l:Option (List V))=q;cases q<;>rfl
 .intro l;simp only[lK];rfl
 .intro l ih;simp only[lK];rw[<-ih,<-nR];show(Option.rec none (fun l=>some (V.tu l)) _:Option V)=_;generalize (V.rec_1 _ _ _ _ _ _ _ _ _ _ _ _ l:Option (List V))=q;cases q<;>rfl
 .intro fn a b c f;simp only[lK];rw[<-c,<-f,<-nR,<-nR];show(Option.rec none (fun a=>Option.rec none (fun b=>some (mr fn a b)) _) _:Option V)=_;generalize (V.rec_1 _ _ _ _ _ _ _ _ _ _ _ _ a:Option (List V))=q;generalize (V.rec_1 _ _ _ _ _ _ _ _ _ _ _ _ b:Option (List V))=p;cases q<;>cases p<;>rfl
 .intro k;simp only[lK];rfl
 .intro k;simp only[lK];rfl
 .simp only[iS];rfl
 .intro x l c f;unfold iS;rw[<-c,<-f];show(Option.rec none (fun y=>Option.rec none (fun r=>some (y::r)) (pu l)) (DT x):Option (List V))=_;cases DT x<;>cases pu l<;>rfl
def yH:∀l:List V,pu l=iS l
 |[]=>by simp only[iS];rfl
 |x::l=>by
  unfold iS;rw[<-UP,<-yH l];show(Option.rec none (fun y=>Option.rec none (fun r=>some (y::r)) (pu l)) (DT x):Option (List V))=_;cases DT x<;>cases pu l<;>rfl
end
section
variable[de]
def settle(d:Rel g h w){p:List (List V)}{D:Bool}(H:h k=some (.row sz p D))(u:g.σ k=some (b,q))(m:Nat)(K:∀c t A,w.heap[b]? =some (.cells c t A)->m<=c.size):
 Rel {g with F:=up g.F b m} (up h k none) w/\Ext g h w {g with F:=up g.F b m} (up h k none) w:=by
 have v:=lS H (by simp[dX.kf];exact⟨q,u⟩);have L:g.F b=0:=by
  cases d.obj k _ H with
  |nilvec _ l=>rw[u]at l;cases l
  |row _ _ _ Q c t l B M=>rw[u]at l;cases l;exact M
 have N:=d.lt b ⟨k,.inl ⟨_,u⟩⟩;have E:Ext g h w {g with F:=up g.F b m} (up h k none) w:={
  n:=fun _ h=>h
  size:=ae _
  os:=rfl
  tape:=rfl
  output:=rfl
  stays:=⟨fun x=>by
   show g.F x<=up g.F b m x;rw[gJ];split
   .subst_vars;omega
   .exact ae _,fun x c t A i=>⟨c,t,A,i,rfl,by
   show up g.F b m x<=_;rw[gJ];split
   .next e=>subst e;have:=K c t A i;omega
   .omega,fun _ _=>rfl⟩⟩
  out:=fun x _ a=>⟨rfl,bI _ _ _ fun e=>a (e▸⟨k,.inl ⟨_,u⟩⟩)⟩
  own:=fun _ h=>.inl h
  sig:=fun _ _=>rfl
  tok:=fun j _ O f=>by
   rw[gJ]at f;split at f
   .cases f
   .next e=>
    refine⟨O,f,.inr ⟨rfl,rfl,fun x i=>?_⟩⟩;have:x≠b:=fun G=>e (d.inj j k b (lS f (by simpa[dX.kf]using G▸i)) v);exact⟨bI _ _ _ this,id⟩}
 refine⟨⟨fun j s r C=>(d.lO j s r C).stay E.stays,fun j I x l P=>?_,d.lt,fun x i=>?_,fun j C=>⟨?_,(d.top j C).2⟩,fun j o a=>?_⟩,E⟩
 .have y:∀j,dJ {g with F:=up g.F b m} (up h k none) j=some x->dJ g h j=some x:=fun j B=>by
   obtain⟨o,a,B⟩:=tZ B;rw[gJ]at a;split at a
   .cases a
   .exact lS a B
  exact d.inj j I x (y j l) (y I P)
 .show up g.F b m x=0;rw[bI _ _ _ (by omega)];exact d.fresh x i
 .rw[gJ];split
  .rfl
  .exact(d.top j C).1
 .rw[gJ]at a;split at a
  .cases a
  .next e=>
   cases J:o.kf with
   |true=>
    cases o with
    |tok n=>exact .tok n
    |_=>cases J
   |false=>
    refine(d.obj j o a).ext E (d.used a) fun x z i=>⟨rfl,?_⟩;refine bI _ _ _ fun G=>e (d.inj j k b (lS a ?_) v);rw[J];exact⟨z,G▸i⟩
def FX(h:HL)(x:V)(y:V)(a:HL):Prop:=
 (∀k,dx a k=dx h k\/dx a k=none)/\∀g w v,Rel g (dx h) w->GV g (dx h) w x v->∃b,Rel b (dx a) w/\Ext g (dx h) w b (dx a) w/\GV b (dx a) w y v/\∀k,b.U k=true->g.U k=true
def FL(h:HL)(d e:List V)(a:HL):Prop:=
 (∀k,dx a k=dx h k\/dx a k=none)/\∀g w c,Rel g (dx h) w->GL g (dx h) w d c->∃b,Rel b (dx a) w/\Ext g (dx h) w b (dx a) w/\GL b (dx a) w e c/\∀k,b.U k=true->g.U k=true
def FX.refl(h:HL){x y:V}(j:∀g w v,GV g (dx h) w x v->GV g (dx h) w y v):FX h x y h:=
 ⟨fun _=>.inl rfl,fun g w v A B=>⟨g,A,Ext.refl _ _ _,j g w v B,fun _ h=>h⟩⟩
def FL.nil(h:HL):FL h [] [] h:=⟨fun _=>.inl rfl,fun g w v j A=>⟨g,j,Ext.refl _ _ _,A,fun _ h=>h⟩⟩
def FL.cons{h E H:HL}{x y:V}{A I:List V}(a:FX h x y E)(b:FL E A I H):FL h (x::A) (y::I) H:=by
 refine⟨fun k=>?_,fun g w j M B=>?_⟩
 .rcases b.1 k with h3|h3
  .rcases a.1 k with C|C
   .exact .inl (h3.trans C)
   .exact .inr (h3.trans C)
  .exact .inr h3
 .cases j with
  |nil=>have:=B.len;simp at this
  |cons v j=>
   obtain⟨N,O,J,v1,P⟩:=a.2 g w v M (B.at_ 0 x v rfl rfl);have D:GL g (dx h) w A j:=by simpa using B.drop 1
   obtain⟨Q,R,L,v2,S⟩:=b.2 N w j O (D.ext J);exact⟨Q,R,J.trans L,GL.cons (v1.ext L) v2,fun k T=>P k (S k T)⟩
def BZ{α:Type}(l:List (List α)):List α:=List.rec [] (fun r _ ih=>ig r ih) l
def Gv{α:Type}:∀l:List (List α),BZ l=l.flatten
 |[]=>rfl
 |r::l=>by show ig r (BZ l)=_;rw[ll,Gv l];rfl
def Gw{α β:Type}(x:Option α)(f:α->Option β):Option β:=Option.rec none f x
def mB{α β:Type}{x:Option α}{f:α->Option β}{y:β}(h:Gw x f=some y):∃a,x=some a/\f a=some y:=by
 cases x with
 |none=>cases h
 |some a=>exact⟨a,rfl,h⟩
def px(h:HL)(k:Nat):HL:=List.rec [] (fun p _ ih=>Bool.rec (p::ih) ih (Nat.beq p.1 k)) h
def Gx(l:HL)(k:Nat):dx (px l k)=up (dx l) k none:=by
 funext i
 rw[gJ];induction l with
 |nil=>show none=_;split<;>rfl
 |cons p r ih=>
  have b:px (p::r) k=Bool.rec (p::px r k) (px r k) (Nat.beq p.1 k):=rfl;rw[b,lj];by_cases e:p.1=k
  .rw[bf e];show dx (px r k) i=_;rw[ih,dR];by_cases a:i=k
   .rw[aS a,if_pos a]
   .rw[aI a,if_neg a,if_neg (by rw[e];exact a)]
  .rw[aA e];show dx (p::px r k) i=_;rw[dR,dR,ih];by_cases a:i=p.1
   .subst a;rw[aS rfl,aI e,if_pos rfl]
   .rw[aI a,if_neg a]
def UQ(f:HL->V->Option (D×HL))(l:List V):HL->Option (List D×HL):=List.rec (fun h=>some ([],h)) (fun x _ r h=>Gw (f h x) fun p=>Gw (r p.2) fun q=>some (p.1::q.1,q.2)) l
def Yn(go:List V->HL->Option (List D×HL))(h:HL)(x:V):Option (D×HL):=match x with
 |.d d=>some (d,h)
 |.t _ _ sz c=>some (.l sz c,h)
 |.p k i j=>match dx h k with
  |some (.row sz c _)=>Gw (go (BZ c) h) fun p=>Option.rec none (fun _=>some (.q sz (chunk sz (qg c) p.1) i j,px p.2 k)) (dx p.2 k)
  |_=>none
 |.v k e m=>match dx h k with
  |some (.row sz c _)=>bif Nat.ble 1 m&&Nat.ble (Nat.add e m) (qg c)then Gw (go (BZ c) h) fun p=>Option.rec none (fun _=>some (.l sz (((chunk sz (qg c) p.1).drop e).take m),px p.2 k)) (dx p.2 k)else none
  |_=>none
 |.f fn a b=>Gw (go a h) fun p=>Gw (go b p.2) fun q=>some (.f fn p.1 q.1,q.2)
 |_=>none
def UR(a:Nat):HL->V->Option (D×HL):=Nat.rec (fun _ _=>none) (fun _ ih h x=>Yn (UQ ih) h x) a
def DU{f:HL->V->Option (D×HL)}(e:∀h x d b,f h x=some (d,b)->FX h x (.d d) b):∀{l:List V} {h b:HL} {c:List D},UQ f l h=some (c,b)->FL h l (c.map .d) b
 |[],h,b,c,a=>by cases a;exact FL.nil h
 |x::l,h,b,c,a=>by
  have a:Gw (f h x) (fun p=>Gw (UQ f l p.2) fun q=>some (p.1::q.1,q.2))=some (c,b):=a;obtain⟨⟨d,j⟩,g,a⟩:=mB a;obtain⟨⟨r,k⟩,i,a⟩:=mB a;cases a;exact FL.cons (e _ _ _ _ g) (DU e i)
def L3{g:Gh}{h:bw}{w:World}{sz:Nat}{c:Array Value}:∀(d:List (List V)) (e:Nat),(∀r∈d,r.length=sz)->
 (∀(i:Nat) r (j:Nat) x v,d[i]? =some r->r[j]? =some x->c[e+i*sz+j]? =some v->GV g h w x v)->∀(q:Nat) x v,d.flatten[q]? =some x->c[e+q]? =some v->GV g h w x v
 |[],e,k,l,q,x,v,f,m=>by simp at f
 |r::n,e,k,l,q,x,v,f,m=>by
  have o:=k r (by simp);rw[ka]at f;by_cases hq:q<r.length
  .rw[an hq]at f;exact l 0 r q x v rfl f (by simpa using m)
  .rw[ay (by omega)]at f;refine L3 n (e+sz) (fun r h=>k r (by simp[h])) (fun i r j x v a b c=>l (i+1) r j x v (by simpa using a) b (by rw[<-c];congr 1;rw[bp];omega)) (q-r.length) x v f ?_;rw[<-m];congr 1;omega
def dT{α:Type}{sz:Nat}:∀(a:List (List α)),(∀r∈a,r.length=sz)->a.flatten.length=a.length*sz
 |[],_=>by simp
 |r::b,h=>by
  rw[ka,aO,dT b fun r c=>h r (by simp[c]),h r (by simp),aW,bp];omega
def L4{h l:HL}{e:List (List V)}{m:Bool}(E:dx h k=some (.row sz e m)){G:List D}(N:FL h (BZ e) (G.map .d) l){o:dX}(n:dx l k=some o)(H:Rel g (dx h) w){s:Nat}(I:g.σ k=some (b,s)):
 ∃u c t,Rel u (dx (px l k)) w/\Ext g (dx h) w u (dx (px l k)) w/\(∀j,u.U j=true->g.U j=true)/\s=sz/\w.heap[b]? =some (.cells c t (0,0))/\e.length*sz<=c.size/\u.F b=e.length*sz/\G.length=e.length*sz/\
  ∀(q:Nat) d v,G[q]? =some d->c[q]? =some v->RD u.F w d v:=by
 have S:=H.used E;cases H.obj k _ E with
 |nilvec _ y=>rw[I]at y;cases y
 |row _ _ _ b2 c t y O hF A f T ho W=>
  rw[I]at y;cases y;have B:=dT e A;have J:GL g (dx h) w (BZ e) (c.toList.take (e.length*sz)):=by
   rw[Gv];refine⟨by rw[aN,aH (xs:=c),B];omega,fun q x v a b=>?_⟩;rw[br]at b;split at b
   .rw[az]at b;exact L3 e 0 A (fun i r j x v p q z=>W i r j x v p q (by simpa using z)) q x v a (by simpa using b)
   .cases b
  obtain⟨g1,X,P,v1,Y⟩:=N.2 g w _ H J;have K:=(P.sig k S).trans I;have C:dx l k=some (.row sz e m):=by
   rcases N.1 k with h3|h3
   .rw[h3];exact E
   .rw[h3]at n;cases n
  obtain⟨Q,L⟩:=settle X C K (e.length*sz) (fun c' t' Z R=>by rw[O]at R;cases R;exact f);rw[<-Gx]at Q L;refine⟨_,c,t,Q,P.trans L,Y,rfl,O,f,aR _ _ _,?_,fun q d v a b=>?_⟩
  .have:=v1.len;rw[aj,aN,aH (xs:=c)]at this;rw[<-this];exact Qa f
  .have hq:=(List.getElem?_eq_some_iff.1 a).1;have M:=v1.len;rw[aj,aN,aH (xs:=c),Nat.min_eq_left f]at M;have:=(v1.ext L).at_ q (.d d) v (by rw[ai,a];rfl) (by rw[bU (by omega),az];exact b);exact this.cG
def US{go:List V->HL->Option (List D×HL)}(B:∀l h G K,go l h=some (G,K)->FL h l (G.map .d) K){h K:HL}(e:Yn go h x=some (d,K)):FX h x (.d d) K:=by
 have E:∀{A:HL} {k:Nat},(∀j,dx A j=dx h j\/dx A j=none)->∀j,dx (px A k) j=dx h j\/dx (px A k) j=none:=fun{A k} L j=>by
  rw[Gx,gJ];split
  .exact .inr rfl
  .exact L j
 unfold Yn at e;split at e
 .cases e;exact FX.refl _ fun g w v C=>C
 .cases e;exact FX.refl _ fun g w v C=>.d _ _ C.tO.2.1
 .next k i j=>
  split at e
  .next sz n W M=>
   obtain⟨⟨G,A⟩,z,e⟩:=mB e;cases u:dx A k with
   |none=>simp only[u]at e;cases e
   |some o=>
    simp only[u]at e;cases e;have N:=B _ _ _ _ z;refine⟨E N.1,fun g w v H C=>?_⟩;obtain⟨hu,b,s,L,rfl⟩:=C.sB;obtain⟨O,c,t,X,Y,Z,rfl,T,k6,P,k8,k9⟩:=L4 M N u H L;refine⟨O,X,Y,.d _ _ ?_,Z⟩;rw[ni];have:=RD.q (F:=O.F) (w:=w) s (chunk s n.length G) i j b 0 c t (0,0) T (by rw[fF,P];omega) (by rw[P];exact k6) (rE k8) (fun i r j d v z Q a3=>k9 _ d v (kO z Q).1 (by simpa using a3));simpa using this
  .cases e
 .next k J m=>
  split at e
  .next sz n W M=>
   cases U:(Nat.ble 1 m&&Nat.ble (Nat.add J m) (qg n))with
   |false=>rw[U]at e;cases e
   |true=>
    rw[U]at e;simp only[ax,Nat.ble_eq,ni]at U;obtain⟨c1,c2⟩:=U;have c2:J+m<=n.length:=c2;obtain⟨⟨G,A⟩,z,e⟩:=mB e;cases u:dx A k with
    |none=>simp only[u]at e;cases e
    |some o=>
     simp only[u]at e;cases e;have N:=B _ _ _ _ z;refine⟨E N.1,fun g w v H C=>?_⟩;rcases C.pq.2 with⟨_,h0,_,_⟩|⟨h0,_⟩|⟨b,s,cap,cc,t',fz,L,rfl,hb,R,hn⟩
     .omega
     .omega
     .obtain⟨O,c,t,X,Y,Z,rfl,T,k6,P,k8,k9⟩:=L4 M N u H L;rw[hb]at T;cases T;refine⟨O,X,Y,.d _ _ ?_,Z⟩;rw[ni];have I:(((chunk s n.length G).drop J).take m).length=m:=by rw[aN,cS,fF];omega
      have S:(J+m)*s<=n.length*s:=Nat.mul_le_mul_right _ c2;rw[bp]at S R;have:=RD.l (F:=O.F) (w:=w) s (((chunk s n.length G).drop J).take m) b (J*s) cap cc t' (0,0) hb (by rw[I,P];omega) (by rw[P];exact k6) (by omega) (by rw[I];exact hn) (fun r H=>rE k8 r (List.mem_of_mem_drop (bz H))) (fun i r j d v z Q a3=>by
       rw[br]at z;split at z
       .rw[bd]at z;refine k9 _ d v (kO z Q).1 ?_;rw[<-a3];congr 1;rw[bp]
       .cases z)
      rwa[I]at this
  .cases e
 .next fn a b=>
  obtain⟨⟨p,h1⟩,z,e⟩:=mB e;obtain⟨⟨q,A⟩,Q,e⟩:=mB e;cases e;have f1:=B _ _ _ _ z;have f2:=B _ _ _ _ Q;refine⟨fun k=>?_,fun g w v H C=>?_⟩
  .rcases f2.1 k with h3|h3
   .rcases f1.1 k with h4|h4
    .exact .inl (h3.trans h4)
    .exact .inr (h3.trans h4)
   .exact .inr h3
  .cases C with
   |f _ _ _ vs us b1 b2 g1 g2=>
    obtain⟨ga,ra,ea,va,ua⟩:=f1.2 g w vs H ⟨b1,g1⟩;have am:GL g (dx h) w b us:=⟨b2,g2⟩;obtain⟨gb,rb,eb,vb,ub⟩:=f2.2 ga w us ra (am.ext ea);have a5:=va.ext eb;refine⟨gb,rb,ea.trans eb,.d _ _ (.f fn p q vs us (by have:=va.len;simpa using this) (by have:=vb.len;simpa using this) (fun i d v x y=>?_) (fun i d v x y=>?_)),fun k M=>ua k (ub k M)⟩
    .exact(a5.at_ i (.d d) v (by rw[ai,x];rfl) y).cG
    .exact(vb.at_ i (.d d) v (by rw[ai,x];rfl) y).cG
 .cases e
def DV:∀(n:Nat) (h:HL) (x:V) (d:D) (a:HL),UR n h x=some (d,a)->FX h x (.d d) a
 |0,h,x,d,a,b=>by cases b
 |n+1,h,x,d,a,b=>US (fun l h f a c=>DU (fun h x d a e=>DV n h x d a e) c) b
def Yo(f:HL->V->Option (V×HL))(l:List V):HL->Option (List V×HL):=List.rec (fun h=>some ([],h)) (fun x _ r h=>Gw (f h x) fun p=>Gw (r p.2) fun q=>some (p.1::q.1,q.2)) l
def JL(h:HL)(x:V):Option (V×HL):=match x with
 |.a l=>some (.a l,h)
 |.g l=>Gw (UQ (UR 40) l h) fun p=>some (.a p.1,p.2)
 |.tu l=>none
 |x=>Gw (UR 40 h x) fun p=>some (.d p.1,p.2)
def yI(h:HL)(x:V):Option (V×HL):=match x with
 |.tu l=>Gw (Yo JL l h) fun p=>some (.tu p.1,p.2)
 |x=>JL h x
def L5{h e:HL}(c:JL h x=some (y,e)):FX h x y e/\V.lt 0 y=true:=by
 have one:Gw (UR 40 h x) (fun p=>some (V.d p.1,p.2))=some (y,e)->FX h x y e/\V.lt 0 y=true:=fun c=>by
  obtain⟨⟨d,o⟩,j,c⟩:=mB c;cases c;exact⟨DV _ _ _ _ _ j,by simp[V.lt]⟩
 unfold JL at c;split at c
 .cases c;exact⟨FX.refl _ fun g w v f=>f,by simp[V.lt]⟩
 .next l=>
  obtain⟨⟨k,o⟩,j,c⟩:=mB c;cases c;have f1:=DU (fun h x d e q=>DV 40 h x d e q) j;refine⟨⟨f1.1,fun g w v r f=>?_⟩,by simp[V.lt]⟩;obtain⟨m,rfl,s,D⟩:=f.Du;obtain⟨t,u,z,v1,A⟩:=f1.2 g w m r s;refine⟨t,u,z,.a k m (by have:=v1.len;simpa using this) (fun v f=>?_) (fun i d v a b=>(v1.at_ i (.d d) v (by rw[ai,a];rfl) b).cG),A⟩;obtain⟨i,n⟩:=List.getElem?_of_mem f;have B:=(List.getElem?_eq_some_iff.1 n).1;have C:m.length=k.length:=by have:=v1.len;simpa using this
  exact((v1.at_ i (.d k[i]) v (by rw[ai,af (by omega)];rfl) n).cG).one
 .cases c
 .exact one c
def L6:∀{l:List V} {h c:HL} {b:List V},Yo JL l h=some (b,c)->FL h l b c/\V.nk 0 b=true
 |[],h,c,b,a=>by cases a;exact⟨FL.nil h,by simp[V.nk]⟩
 |x::l,h,c,b,a=>by
  have a:Gw (JL h x) (fun p=>Gw (Yo JL l p.2) fun q=>some (p.1::q.1,q.2))=some (b,c):=a;obtain⟨⟨d,m⟩,e,a⟩:=mB a;obtain⟨⟨r,n⟩,f,a⟩:=mB a;cases a;obtain⟨g,i⟩:=L5 e;obtain⟨j,k⟩:=L6 f;exact⟨FL.cons g j,by simp[V.nk,i,k]⟩
def UT{h b:HL}(a:yI h x=some (y,b)):FX h x y b/\V.lt 0 y=true:=by
 unfold yI at a;split at a
 .next l=>
  obtain⟨⟨d,q⟩,e,a⟩:=mB a;cases a;obtain⟨f1,f2⟩:=L6 e;refine⟨⟨f1.1,fun g w v f i=>?_⟩,by simpa[V.lt]using f2⟩;cases i with
  |tu _ c j k=>
   obtain⟨m,n,o,v1,p⟩:=f1.2 g w c f ⟨j,k⟩;exact⟨m,n,o,.tu d c v1.len v1.at_,p⟩
 .exact L5 a
end
section
variable[de]
abbrev CL:=FuncId->List V->HL->Nat->Rs (V×HL×Nat)
def fW(P:Program)(f:FuncId):Prop:=∀args w,(callFunc f args).run P w=.ok (.enter f args) w
def xy(P:Program)(c:CL):Prop:=∀f args h n r a b,c f args h n=.ok (r,a,b)->fW P f/\AC P f args (dx h) n fun x d e=>x=r/\d=dx a/\e=b
structure Cr where
 x:V
 us:List (Nat×Option dX)
 rd:List Nat
 h:HL
 n:Nat
def Bj(a b:Nat):Nat:=Bool.rec a b (Nat.ble a b)
def xU(a b:Nat):Bj a b=max a b:=by
 unfold Bj;cases h:Nat.ble a b with
 |true=>have:=dQ h;show b=max a b;omega
 |false=>
  have:¬a<=b:=fun e=>by rw[xG e]at h;cases h
  show a=max a b;omega
def wY(K:HL):List Nat:=List.rec [] (fun p _ ih=>p.1::ih) K
def JM(K h:HL):HL:=List.rec [] (fun p _ ih=>Option.rec (p::ih) (fun _=>ih) (dx K p.1)) h
def usK(a K:HL):List (Nat×Option dX):=List.rec [] (fun p _ ih=>(p.1,dx a p.1)::ih) K
def uc(K:HL)(n:Nat):Nat:=List.rec n (fun p _ ih=>Bj (Nat.succ p.1) ih) K
def Yp(o:dX):Bool:=dX.rec (fun _ _ _=>false) (fun _=>true) (fun _ _=>false) (fun _=>false) o
def Yq(a b:Bool):Bool:=Bool.rec (Bool.rec true false b) b a
def okK(K:HL)(n:Nat)(l:HL):Bool:=List.rec true (fun p _ ih=>Bool.rec false (Bool.rec false ih (Nat.ble (Nat.succ p.1) n)) (onO K p.2)) l
def aar(K a:HL)(n:Nat)(l:HL):Bool:=List.rec true (fun p _ ih=>Bool.rec false (Bool.rec false ih (Option.rec (Nat.ble n p.1) (fun o=>Yq (Yp o) (Yp p.2)) (dx K p.1))) (onO a p.2)) l
def JN(h:HL)(n:Nat)(K:HL)(r:V)(a:HL):Rs Cr:=BY 83 (UN a r) (BY 84 (aar K a n a) (.ok ⟨r,usK a (ig K a),wY K,ig a (JM K h),uc a n⟩))
def QV(a:CL)(h:HL)(n:Nat)(f:FuncId)(args:List V)(K:HL):Rs Cr:=
 BY 81 (NY K args) (BY 82 (okK K n K) (rb (a f args K n) fun r=>JN h n K r.1 (reach r.2.1 100000 (Gt r.1 (wY K)) [])))
def yJ(a:CL)(h:HL)(n:Nat)(f:FuncId)(args:List V):Rs Cr:=QV a h n f args (reach h 100000 (UM args []) [])
def yK(P:Program)(f:FuncId)(args:List V)(h:bw)(m:List Nat)(c:List (Nat×Option dX))(i j:Nat)(r:V):Prop:=
 ∀g a w l,Rel g a w->(∀k∈m,a k=h k)->(∀k,i<=k->g.U k=true->j<=k)->GL g a w args l->Calls P f l.toArray w fun e d=>∃v b,e=.returned v/\GV b (ft a c) d r v/\Rel b (ft a c) d/\Ext g a w b (ft a c) d/\
  ∀k,b.U k=true->g.U k=true\/(i<=k/\k<j)
def N1{K:HL}:k∈wY K↔∃o,dx K k=some o:=by
 induction K with
 |nil=>
  constructor
  .intro h;cases h
  .rintro⟨o,h⟩;cases h
 |cons p K ih=>
  rw[show wY (p::K)=p.1::wY K from rfl,List.mem_cons,ih];constructor
  .rintro(rfl|⟨o,h⟩)
   .exact⟨p.2,by rw[dR,aS rfl]⟩
   .by_cases e:k=p.1
    .exact⟨p.2,by rw[dR,aS e]⟩
    .exact⟨o,by rw[dR,aI e];exact h⟩
  .rintro⟨o,h⟩;rw[dR]at h;split at h
   .next e=>exact .inl e
   .exact .inr ⟨o,h⟩
def L7(a b:HL)(k:Nat):dx (ig a b) k=match dx a k with|some o=>some o|none=>dx b k:=by
 rw[ll];induction a with
 |nil=>rfl
 |cons p a ih=>
  rw[et,dR,dR];split
  .rfl
  .exact ih
def UU(K h:HL)(k:Nat):dx (JM K h) k=match dx K k with|some _=>none|none=>dx h k:=by
 induction h with
 |nil=>show none=_;split<;>rfl
 |cons p h ih=>
  have b:JM K (p::h)=Option.rec (p::JM K h) (fun _=>JM K h) (dx K p.1):=rfl;rw[b];cases a:dx K p.1 with
  |some o=>
   show dx (JM K h) k=_;rw[ih,dR];by_cases e:k=p.1
   .subst e;rw[a]
   .rw[aI e]
  |none=>
   show dx (p::JM K h) k=_;rw[dR,ih,dR];by_cases e:k=p.1
   .subst e;rw[aS rfl,aS rfl,a]
   .rw[aI e,if_neg e]
def UW(a K:HL)(h:bw)(k:Nat):ft h (usK a K) k=match dx K k with|some _=>dx a k|none=>h k:=by
 induction K generalizing h with
 |nil=>rfl
 |cons p K ih=>
  show ft (up h p.1 (dx a p.1)) (usK a K) k=_;rw[ih,dR];by_cases e:k=p.1
  .subst e;rw[aS rfl,aR];split<;>rfl
  .rw[aI e];split
   .rfl
   .rw[bI _ _ _ e]
def L8{K:HL}{n:Nat}:n<=uc K n:=by
 induction K with
 |nil=>exact ae _
 |cons p K ih=>show n<=Bj (Nat.succ p.1) (uc K n);rw[xU];omega
def xV{K:HL}{n:Nat}{o:dX}(h:dx K k=some o):k<uc K n:=by
 have a:=lZ h;induction K with
 |nil=>cases a
 |cons p K ih=>
  show k<Bj (Nat.succ p.1) (uc K n);rw[xU];rw[dR]at h;split at h
  .next e=>subst e;omega
  .have:=ih h (lZ h);omega
def JO{K:HL}{n:Nat}:∀{l:HL},okK K n l=true->∀p∈l,p.2.on (si K)/\p.1<n
 |[],_,p,a=>by cases a
 |q::l,h,p,a=>by
  obtain⟨c,b⟩:=ic h;obtain⟨b,d⟩:=ic b;rcases aw.1 a with rfl|a
  .exact⟨QU c,Nat.le_of_ble_eq_true b⟩
  .exact JO d p a
def L9(o:dX):Yp o=o.kf:=by cases o<;>rfl
def QW{a b:Bool}(h:Yq a b=true):a=b:=by cases a<;>cases b<;>first|rfl|cases h
def Ma{K d:HL}{n:Nat}:∀{l:HL},aar K d n l=true->∀p∈l,p.2.on (si d)/\(∀o,dx K p.1=some o->o.kf=p.2.kf)/\(dx K p.1=none->n<=p.1)
 |[],_,p,b=>by cases b
 |q::l,h,p,b=>by
  obtain⟨e,a⟩:=ic h;obtain⟨a,f⟩:=ic a;rcases aw.1 b with rfl|b
  .refine⟨QU e,fun o c=>?_,fun c=>?_⟩
   .rw[c]at a;rw[<-L9,<-L9];exact QW a
   .rw[c]at a;exact dQ a
  .exact Ma f p b
def QX{E:CL}(J:xy P E){h:HL}{n:Nat}{l:Cr}(e:yJ E h n f args=.ok l):
 dx l.h=ft (dx h) l.us/\n<=l.n/\fW P f/\yK P f args (dx h) l.rd l.us n l.n l.x:=by
 unfold yJ at e;have t:=kR (h:=h) 100000 (UM args []) [] (fun k o c=>by cases c);generalize reach h 100000 (UM args []) []=K at e t;unfold QV at e;obtain⟨L,e⟩:=kQ e;obtain⟨M,e⟩:=kQ e;obtain⟨⟨r,u,F⟩,N,e⟩:=kM e;have m:=kR (h:=u) 100000 (Gt r (wY K)) [] (fun k o c=>by cases c);change JN h n K r (reach u 100000 (Gt r (wY K)) [])=.ok l at e;generalize reach u 100000 (Gt r (wY K)) []=d at e m;unfold JN at e;obtain⟨O,e⟩:=kQ e;obtain⟨Q,e⟩:=kQ e;cases e;obtain⟨R,S⟩:=J _ _ _ _ _ _ _ N;have v:=JO M;have i:=Ma Q;have G:∀(p:bw) k,ft p (usK d (ig K d)) k=match dx K k with|some _=>dx d k|none=>(match dx d k with|some o=>some o|none=>p k):=fun p k=>by
  rw[UW,L7];cases dx K k with
  |some o=>rfl
  |none=>
   show(match dx d k with|some _=>dx d k|none=>p k)=match dx d k with|some o=>some o|none=>p k
   cases dx d k<;>rfl
 refine⟨?_,L8,R,?_⟩
 .funext k
  rw[G,L7,UU];cases dx d k<;>cases dx K k<;>rfl
 .intro g p w W H A q B;have j:∀k,n<=k->k<uc d n->g.U k=false:=fun k a b=>by
   cases T:g.U k with
   |false=>rfl
   |true=>have:uc d n<=k:=q k a T;omega
  have y:pM p (dx d) (NX K n (uc d n))=ft p (usK d (ig K d)):=by
   funext k
   rw[G];unfold pM;cases c:dx K k with
   |some o=>rw[aS (yF c)]
   |none=>
    cases z:dx d k with
    |some o=>
     rw[aS ((qt c).2 ⟨(i _ (lZ z)).2.2 c,xV z⟩)]
    |none=>
     by_cases C:NX K n (uc d n) k=true
     .rw[aS C];have:=(qt c).1 C;exact((H.top k (j k this.1 this.2)).1).symm
     .rw[aI C]
  have:=JJ H (K:=K) (K1:=d) (n:=n) (n1:=F) (n2:=uc d n) (r:=r) (h1:=dx u) (fun k o c=>by rw[A k (N1.2 ⟨o,c⟩)];exact t k o c) (fun k o c=>(v _ (lZ c)).1) (DR L) (fun k o c=>(v _ (lZ c)).2)
   j S (fun k=>by
    cases c:dx d k with
    |none=>exact .inr rfl
    |some o=>exact .inl (m k o c).symm) (fun k o c=>(i _ (lZ c)).1) (yG r O) (fun k o c=>by
    cases s:dx K k with
    |some I=>exact yF s
    |none=>exact(qt s).2 ⟨(i _ (lZ c)).2.2 s,xV c⟩) (fun k o I c D=>((i _ (lZ c)).2.1 I D).symm) B
  rw[y]at this;exact this
structure Ent where
 fn:Func
 kp:List Nat
 mu:Nat->Nat->Bool
structure En where
 Yr:FuncId->Option Ent
 orc:FuncId->Option (List V->Option V)
 pure:FuncId->Bool
 ext:Op->(Operand->Option V)->bw->Nat->Option Out
 tab:gI
 G:Nat->Option (Nat×List (List D))
 K:Nat
 lvl:Nat
def Gz(E:En)(b:CL)(h:HL)(n:Nat)(f:FuncId)(args:List V):Rs Cr:=
 Bool.rec (yJ b h n f args) (Option.rec (yJ b h n f args) (fun a=>rb (b f a [] 0) fun r=>ro 92 (yI r.2.1 r.1) fun y=>.ok ⟨y.1,[],[],h,n⟩) (pu args)) (E.pure f)
def py(E:En)(b:CL)(h:HL)(n:Nat)(f:FuncId)(args:List V):Rs Cr:=
 Option.rec (Gz E b h n f args)
  (fun g=>Option.rec (Gz E b h n f args) (fun a=>Option.rec (Gz E b h n f args) (fun r=>.ok ⟨r,[],[],h,n⟩) (g a)) (pu args))
  (E.orc f)
def qv(P:Program)(orc:FuncId->Option (List V->Option V)):Prop:=∀f g,orc f=some g->∀args r,g args=some r->(fW P f/\PC P f args r)\/wX P f args r
def GA(c:PC P f a r)(d:iS args=some a)(h:bw)(n:Nat):yK P f args h [] [] n n r:=by
 intro g s w t i _ _ b;exact(c.over i (DS b d)).mono fun e u ⟨v,j,l,m,o,p⟩=>⟨v,g.over j,l,m,o,p,fun k q=>.inl q⟩
def XD{c d:HL}{n:Nat}(b:AC P f a (fun _=>none) 0 fun x h m=>x=r/\h=dx c/\m=n)(j:iS args=some a)(l:yI c r=some (y,d)):PC P f a y:=by
 obtain⟨⟨R,o⟩,p⟩:=UT l;refine⟨JK.2 _ _ j,p,fun g w q s t u=>(b g w q s t u).mono fun e A ⟨v,z,S,B,C,D,⟨E,F,G⟩,H,I,J,K⟩=>?_⟩;subst E;subst F;subst G;obtain⟨i,L,M,v2,N⟩:=o C A v I H;refine⟨v,y,dx d,B,i,D,rfl,v2,L,fun k O=>?_,K.trans M⟩;cases Q:i.U k with
 |false=>rfl
 |true=>have:=N k Q;rw[J k O]at this;cases this
def GB{E:En}{l:CL}(t:qv P E.orc)(p:xy P l){h:HL}{n:Nat}{b:Cr}(c:py E l h n f args=.ok b):
 dx b.h=ft (dx h) b.us/\n<=b.n/\((fW P f/\yK P f args (dx h) b.rd b.us n b.n b.x)\/∃a,iS args=some a/\wX P f a b.x/\b.us=[]/\b.rd=[]/\b.n=n):=by
 have frame:yJ l h n f args=.ok b->dx b.h=ft (dx h) b.us/\n<=b.n/\((fW P f/\yK P f args (dx h) b.rd b.us n b.n b.x)\/∃a,iS args=some a/\wX P f a b.x/\b.us=[]/\b.rd=[]/\b.n=n):=fun c=>by
  obtain⟨e,i,q,u⟩:=QX p c;exact⟨e,i,.inl ⟨q,u⟩⟩
 have d:Gz E l h n f args=.ok b->dx b.h=ft (dx h) b.us/\n<=b.n/\((fW P f/\yK P f args (dx h) b.rd b.us n b.n b.x)\/∃a,iS args=some a/\wX P f a b.x/\b.us=[]/\b.rd=[]/\b.n=n):=fun c=>by
  unfold Gz at c;cases s:E.pure f with
  |false=>rw[s]at c;exact frame c
  |true=>
   rw[s]at c;cases j:pu args with
   |none=>simp only[j]at c;exact frame c
   |some a=>
    simp only[j]at c;obtain⟨⟨r,v,w⟩,e,c⟩:=kM c;obtain⟨⟨y,q⟩,i,c⟩:=iH c;cases c;rw[yH]at j;obtain⟨m,o⟩:=p _ _ _ _ _ _ _ e;exact⟨rfl,ae _,.inl ⟨m,GA (XD o j i) j _ _⟩⟩
 unfold py at c;cases hq:E.orc f with
 |none=>rw[hq]at c;exact d c
 |some g=>
  rw[hq]at c;cases e:pu args with
  |none=>simp only[e]at c;exact d c
  |some a=>
   simp only[e]at c;cases i:g a with
   |none=>simp only[i]at c;exact d c
   |some r=>
    simp only[i]at c;cases c;rw[yH]at e;refine⟨rfl,ae _,?_⟩;rcases t f g hq a r i with⟨m,o⟩|k
    .exact .inl ⟨m,GA o e _ _⟩
    .exact .inr ⟨a,e,k,rfl,rfl,rfl⟩
end
section
variable[de]
structure St.le(s t:St):Prop where
 e:∀i x,s.e i=some x->t.e i=some x
 h:∀k,s.h k=t.h k\/s.h k=none
 n:t.n=s.n
def St.le.refl(s:St):s.le s:=⟨fun _ _ h=>h,fun _=>.inl rfl,rfl⟩
def Sat.aas{s t:St}{a:Act}(A:s.le t)(j:Sat m t g a w):Sat m s g a w/\Ext g t.h w g s.h w:=by
 obtain⟨C,B⟩:=LZ j.rel A.h;exact⟨⟨C,fun k D=>j.new k (A.n▸D),fun i x E=>(j.env i x (A.e i x E)).ext B,j.size,j.NR⟩,B⟩
def W.forget{c:Code}{Q j:Exit->St->Prop}{s:St}(h:W P m c Q s)(hq:∀x t,Q x t->∃u,St.le u t/\j x u):W P m c j s:=by
 intro g a w A;refine ma (h g a w A) fun x O R ⟨B,C,D,E,H,I⟩=>?_;obtain⟨u,J,L⟩:=hq x B D;obtain⟨M,N⟩:=E.aas J;exact⟨u,C,L,M,H.trans N,I⟩
inductive Ev where
 |e
 |c(k:Nat)(v:V)(r:Ev)
def lk(l:Ev)(k:Nat)(z:Option V):Option V:=Ev.rec z (fun j v _ ih=>Bool.rec ih (some v) (Nat.beq j k)) l
def ud(l:Ev)(k:Nat)(x:V):Ev:=Ev.rec (motive:=fun _=>Nat->V->Ev) (fun k x=>.c k x .e) (fun j v r ih k x=>Bool.rec (.c j v (ih k x)) (.c k x r) (Nat.beq j k)) l k x
def N2{α:Type}(l:List (Nat×α))(k:Nat)(x:α):List (Nat×α):=List.rec [(k,x)] (fun p r ih=>Bool.rec (p::ih) ((k,x)::r) (Nat.beq p.1 k)) l
def ob{α β:Type}(x:Option α)(f:α->Option β):Option β:=Option.rec none f x
def bK{α β:Type}{x:Option α}{f:α->Option β}{y:β}(h:ob x f=some y):∃a,x=some a/\f a=some y:=by
 cases x with
 |none=>cases h
 |some a=>exact⟨a,rfl,h⟩
def ei{α β:Type}(x:Option α)(f:α->Option β):ob x f=x.bind f:=by cases x<;>rfl
def l5(j:Nat)(v:V)(l:Ev)(k:Nat)(z:Option V):lk (.c j v l) k z=if k=j then some v else lk l k z:=by
 show(Bool.rec (lk l k z) (some v) (Nat.beq j k):Option V)=_;rw[lj];by_cases e:j=k
 .simp[e]
 .rw[aA e,if_neg (Ne.symm e)]
structure GT where
 l:Ev
 e:Ev
 h:HL
 n:Nat
def GT.st(s:GT):St:=⟨fun i=>lk s.l i (lk s.e i none),dx s.h,s.n⟩
def vC(G:Nat->Option (Nat×List (List D)))(s:GT)(x:Operand):Option V:=Operand.rec (fun t=>lk s.l t (lk s.e t none)) (fun v=>yA v) (fun k=>ob (G k) fun p=>some (.d (.q p.1 p.2 0 0))) (fun f=>some (.d (.f (.func f) [] []))) x
def yL{G:Nat->Option (Nat×List (List D))}(a:G=de.G)(s:GT):vC G s=s.st.ev:=by
 subst a
 funext x
 cases x with
 |global k=>
  show ob (de.G k) _=Option.map _ (de.G k);cases de.G k<;>rfl
 |_=>rfl
def eU(s:GT)(d:Option Tmp)(x:V)(h:HL)(n:Nat):GT:=Option.rec ⟨s.l,s.e,h,n⟩ (fun d=>⟨.c d x s.l,s.e,h,n⟩) d
def JP(h:HL)(k:Nat):HL:=List.rec [] (fun p _ ih=>Bool.rec (p::ih) ih (Nat.beq p.1 k)) h
def Ys(n:Nat)(h:HL)(k:Nat)(o:Option dX):HL:=Option.rec (JP h k) (fun o=>Bool.rec (N2 h k o) ((k,o)::h) (Nat.ble n k)) o
def GC(n:Nat)(a:List (Nat×Option dX)):HL->HL:=List.rec (fun h=>h) (fun u _ ih h=>ih (Ys n h u.1 u.2)) a
def QY(l:HL)(k:Nat)(x:dX):dx (N2 l k x)=up (dx l) k (some x):=by
 funext i
 rw[gJ];induction l with
 |nil=>
  show dx [(k,x)] i=_;rw[dR]
 |cons p r ih=>
  have b:N2 (p::r) k x=Bool.rec (p::N2 r k x) ((k,x)::r) (Nat.beq p.1 k):=rfl;rw[b,lj];by_cases e:p.1=k
  .rw[bf e];show dx ((k,x)::r) i=_;rw[dR,dR];by_cases a:i=k
   .simp[a]
   .rw[aI a,if_neg a,if_neg (by rw[e];exact a)]
  .rw[aA e];show dx (p::N2 r k x) i=_;rw[dR,dR,ih];by_cases a:i=p.1
   .subst a;rw[aS rfl,aI e,if_pos rfl]
   .rw[aI a,if_neg a]
def UX(l:HL)(k:Nat):dx (JP l k)=up (dx l) k none:=by
 funext i
 rw[gJ];induction l with
 |nil=>show none=_;split<;>rfl
 |cons p r ih=>
  have b:JP (p::r) k=Bool.rec (p::JP r k) (JP r k) (Nat.beq p.1 k):=rfl;rw[b,lj];by_cases e:p.1=k
  .rw[bf e];show dx (JP r k) i=_;rw[ih,dR];by_cases a:i=k
   .rw[aS a,if_pos a]
   .rw[aI a,if_neg a,if_neg (by rw[e];exact a)]
  .rw[aA e];show dx (p::JP r k) i=_;rw[dR,dR,ih];by_cases a:i=p.1
   .subst a;rw[aS rfl,aI e,if_pos rfl]
   .rw[aI a,if_neg a]
def UY(n:Nat)(h:HL)(k:Nat)(o:Option dX):dx (Ys n h k o)=up (dx h) k o:=by
 cases o with
 |none=>exact UX h k
 |some o=>
  show dx (Bool.rec (N2 h k o) ((k,o)::h) (Nat.ble n k))=_;cases Nat.ble n k with
  |false=>exact QY h k o
  |true=>
   funext i
   show dx ((k,o)::h) i=_;rw[dR,gJ]
def GD(n:Nat)(a:List (Nat×Option dX)):∀h:HL,dx (GC n a h)=ft (dx h) a:=by
 induction a with
 |nil=>intro h;rfl
 |cons u r ih=>
  intro h;show dx (GC n r (Ys n h u.1 u.2))=ft (up (dx h) u.1 u.2) r;rw[ih,UY]
def oR(s:GT)(d:Option Tmp)(x:V)(h:HL)(n:Nat):(eU s d x h n).st=⟨ly s.st.e d x,dx h,n⟩:=by
 cases d with
 |none=>rfl
 |some d=>
  unfold GT.st
  congr 1
  funext i
  show lk (.c d x s.l) i (lk s.e i none)=up _ d (some x) i;rw[l5,gJ]
def ko(v:V):Option (FuncId×List V×List V):=match v with
 |.d (.f (.func f) a b)=>some (f,a.map .d,b.map .d)
 |.f (.func f) a b=>some (f,a,b)
 |_=>none
def yM{s:St}{x:Operand}{v:V}{q:FuncId×List V×List V}(a:s.ev x=some v)(h:ko v=some q):callee s x=some q:=by
 unfold ko at h;unfold callee;rw[a];split at h
 .cases h;rfl
 .cases h;rfl
 .cases h
def sj(a:Operand->Option V)(l:List Operand):Option (List V):=List.rec (some []) (fun x _ ih=>Option.rec none (fun v=>Option.rec none (fun r=>some (v::r)) ih) (a x)) l
def eK{a:Operand->Option V}:∀l:List Operand,sj a l=xu a l
 |[]=>rfl
 |x::l=>by
  unfold xu;rw[<-eK l];show(Option.rec none (fun v=>Option.rec none (fun r=>some (v::r)) (sj a l)) (a x):Option (List V))=_;cases a x<;>cases sj a l<;>rfl
end
section
variable[de]
abbrev Hd:=gI->(Operand->Option V)->bw->Nat->Bool->Option Out
def mZ:Hd:=fun _ _ _ _ _=>none
def JQ(x:Operand):Hd:=fun a b h n c=>ob (b x) fun x=>some (dF n x)
def yN(x:Operand):Hd:=fun a b h n c=>ob (b x) fun x=>some (dF n x)
def JR(c:Operand)(a:Operand)(b:Operand):Hd:=fun e d h n f=>ob (d c) fun c=>ob (LN c (d a) (d b)) fun x=>some (dF n x)
def DW(e:TypeId):Hd:=fun a b h n c=>DB a n e
def QZ(t:TypeId)(x:Operand):Hd:=fun a b h n c=>ob (b x) fun x=>UD n x
def DX(t:TypeId)(b:Array (Nat×Operand)):Hd:=fun a c h n d=>ob (yq a c t b.toList) fun x=>some (dF n x)
def oS(t:TypeId)(len:Nat)(b:Array (Nat×Operand)):Hd:=fun a c h n d=>lx a n d c t len b.toList
def JS(t:TypeId)(a:Operand):Hd:=fun b c h n d=>ob (c a) fun a=>ob (nO b h t a) fun x=>some (dF n x)
def DY(t:TypeId)(a:Operand)(x:Operand):Hd:=fun b c h n d=>ob (c a) fun a=>ob (c x) fun x=>sR b h n t a x
def sW(x:Operand):Hd:=fun a b h n c=>ob (b x) fun x=>ob (rB x) fun x=>some (dF n x)
def DZ(op:BinOp)(t:TypeId)(x:Operand)(y:Operand)(u:TypeId):Hd:=fun a b h n c=>ob (b x) fun x=>ob (b y) fun y=>ob (QT a op t x y) fun x=>some (dF n x)
def JT(op:UnOp)(t:TypeId)(x:Operand):Hd:=fun a b h n c=>ob (b x) fun x=>ob (unV op x) fun x=>some (dF n x)
def N3(s:TypeId)(d:TypeId)(x:Operand):Hd:=fun a b h n c=>ob (b x) fun x=>Option.rec (sC a h n s d x) (fun y=>some (dF n y)) (yo a s d x)
def sX(fn:Fn)(a:Array Operand)(b:Array Operand):Hd:=fun d c h n e=>ob (sj c a.toList) fun a=>ob (sj c b.toList) fun b=>some (dF n (mr fn a b))
def qw(t:TypeId)(l:Operand)(c:Operand):Hd:=fun a b h n d=>ob (b l) fun l=>ob (b c) fun c=>oO a n (Bool.rec true false d) t l c
def UZ(t:TypeId)(x:Operand)(a:Option Operand)(b:Option Operand)(mx:Option Operand):Hd:=fun c d h n e=>Option.rec (ob (d x) fun x=>ob (Gd d a) fun a=>ob (Gd d b) fun b=>ob (sP c h t x a b) fun x=>some (dF n x)) (fun _=>none) mx
def qx(s:TypeId)(x:Operand)(f:Nat):Hd:=fun a b h n c=>ob (b x) fun x=>ob (Dy a s x f) fun x=>some (dF n x)
def D0(t:TypeId)(x:Operand)(f:Nat):Hd:=fun a b h n c=>ob (b x) fun x=>ob (Dx a t x f) fun x=>some (dF n x)
def qy(t:TypeId)(x:Operand)(i:Operand):Hd:=fun a b h n c=>ob (b x) fun x=>ob (b i) fun i=>ob (sO a h t x i) fun x=>some (dF n x)
def D1(t:TypeId)(x:Operand)(i:Operand):Hd:=fun a b h n c=>ob (b x) fun x=>ob (b i) fun i=>ob (Dz a t x i) fun x=>some (dF n x)
def D2(t:TypeId)(x:Operand):Hd:=fun a b h n c=>ob (b x) fun x=>DE a n t x
def JU(x:Operand)(b:Bool):Hd:=fun a c h n d=>ob (c x) fun x=>yx h n x b
def vJ(x:Operand)(i:Nat):Hd:=fun a b h n c=>ob (b x) fun x=>ob (tP x i) fun x=>some (dF n x)
def XE(args:List Operand)(a:List TypeId):Hd:=fun b c h n d=>List.rec none (fun x r _=>List.rec (List.rec none (fun t _ _=>ob (c x) fun x=>ob (NI b t x) fun x=>some (dF n x)) a) (fun _ _ _=>none) r) args
def GF(args:List Operand)(b:List TypeId):Hd:=fun c d h n e=>match args,b with
 |[a,x],[t,f]=>ob (d a) fun a=>ob (d x) fun x=>oN c h n e t f a x
 |_,_=>none
def XF(args:List Operand):Hd:=fun a b h n d=>ob (sj b args) fun c=>ob (Uy c) fun x=>some (dF n x)
def XG(args:List Operand):Hd:=fun a b h n d=>ob (sj b args) fun c=>ob (Uz c) fun x=>some (dF n x)
def U0(b:Builtin)(args:List Operand)(a:List TypeId):Hd:=match b with
 |.len=>XE args a
 |.append=>GF args a
 |.max=>XF args
 |.min=>XG args
 |_=>mZ
def Yt(c:Call):Hd:=Call.rec (fun f args a=>Callee.rec (fun _=>mZ) (fun _ _=>mZ) (fun b=>U0 b args.toList a.toList) f) c
def GG(op:Op):Hd:=Op.rec (motive:=fun _=>Hd)
 JQ yN JR DW QZ DX oS (fun _ _ _ _=>mZ) JS DY (fun _=>mZ) (fun _=>mZ) sW DZ JT N3 (fun _ _=>mZ) (fun _ _=>mZ) sX (fun _ _=>mZ) (fun _ _=>mZ) qw UZ qx D0 qy D1 (fun _ _ _ _=>mZ) (fun _ _ _ _=>mZ) (fun _ _ _=>mZ) (fun _ _ _ _=>mZ) D2 JU (fun _=>mZ) (fun _ _ _ _=>mZ) vJ Yt (fun _=>mZ) (fun _=>mZ) (fun _=>mZ) (fun _ _=>mZ) (fun _ _ _=>mZ) (fun _ _=>mZ) op
def eX{α β:Type}(x:Option α)(f:α->β):(ob x fun y=>some (f y))=x.map f:=by cases x<;>rfl
def Q0{g:gI}{k:Operand->Option V}{n:Nat}{j:Bool}{o:Out}(m:GG op g k h n j=some o):∃q,cM g k h n q op=some o:=by
 cases op with
 |makeSlice t l c=>
  refine⟨Bool.rec true false j,?_⟩;rw[<-m];show(k l).bind _=qw t l c g k h n j;unfold qw;simp only[ei]
 |call c=>
  obtain⟨f,⟨args⟩,⟨p⟩⟩:=c;cases f with
  |value x=>cases m
  |invoke x y=>cases m
  |builtin b=>
   have m:U0 b args p g k h n j=some o:=m;unfold U0 at m;split at m
   .match args,p,m with
    |[x],t::r,m=>
     refine⟨j,?_⟩;rw[<-m];show(k x).bind (fun x=>(NI g t x).map (dF n))=ob (k x) fun x=>ob (NI g t x) fun x=>some (dF n x);simp only[ei,<-eX]
    |[],_,m=>cases m
    |[x],[],m=>cases m
    |x::y::r,_,m=>cases m
   .unfold GF at m;split at m
    .refine⟨j,?_⟩;rw[<-m];simp only[cM,ei]
    .cases m
   .refine⟨j,?_⟩;rw[<-m];simp only[cM,XF,eK,ei,<-eX]
   .refine⟨j,?_⟩;rw[<-m];simp only[cM,XG,eK,ei,<-eX]
   .cases m
 |slice t x w z mx=>
  cases mx with
  |some y=>cases m
  |none=>
   refine⟨j,?_⟩;rw[<-m];show(k x).bind _=ob (k x) _;simp only[ei,<-eX]
 |convert s d x=>
  refine⟨j,?_⟩;rw[<-m];show(k x).bind _=ob (k x) _;rw[ei]
  congr 1
  funext y
  cases yo g s d y<;>rfl
 |move x=>refine⟨j,?_⟩;rw[<-m];show cM g k h n j _=JQ x g k h n j;simp only[cM,JQ,ei,eK,eS h,<-eX]
 |assign x=>refine⟨j,?_⟩;rw[<-m];show cM g k h n j _=yN x g k h n j;simp only[cM,yN,ei,eK,eS h,<-eX]
 |pick c a b=>refine⟨j,?_⟩;rw[<-m];show cM g k h n j _=JR c a b g k h n j;simp only[cM,JR,ei,eK,eS h,<-eX]
 |alloc e=>refine⟨j,?_⟩;rw[<-m];show cM g k h n j _=DW e g k h n j;simp only[cM,DW,ei,eK,eS h,<-eX]
 |box t x=>refine⟨j,?_⟩;rw[<-m];show cM g k h n j _=QZ t x g k h n j;simp only[cM,QZ,ei,eK,eS h,<-eX]
 |build t v=>refine⟨j,?_⟩;rw[<-m];show cM g k h n j _=DX t v g k h n j;simp only[cM,DX,ei,eK,eS h,<-eX]
 |buildSlice t len v=>refine⟨j,?_⟩;rw[<-m];show cM g k h n j _=oS t len v g k h n j;simp only[cM,oS,ei,eK,eS h,<-eX]
 |load t a=>refine⟨j,?_⟩;rw[<-m];show cM g k h n j _=JS t a g k h n j;simp only[cM,JS,ei,eK,eS h,<-eX]
 |store t a x=>refine⟨j,?_⟩;rw[<-m];show cM g k h n j _=DY t a x g k h n j;simp only[cM,DY,ei,eK,eS h,<-eX]
 |nilCheck x=>refine⟨j,?_⟩;rw[<-m];show cM g k h n j _=sW x g k h n j;simp only[cM,sW,ei,eK,eS h,<-eX]
 |binOp op t x y u=>refine⟨j,?_⟩;rw[<-m];show cM g k h n j _=DZ op t x y u g k h n j;simp only[cM,DZ,ei,eK,eS h,<-eX]
 |unOp op t x=>refine⟨j,?_⟩;rw[<-m];show cM g k h n j _=JT op t x g k h n j;simp only[cM,JT,ei,eK,eS h,<-eX]
 |makeFunc fn a b=>refine⟨j,?_⟩;rw[<-m];show cM g k h n j _=sX fn a b g k h n j;simp only[cM,sX,ei,eK,eS h,<-eX]
 |fieldAddr s x f=>refine⟨j,?_⟩;rw[<-m];show cM g k h n j _=qx s x f g k h n j;simp only[cM,qx,ei,eK,eS h,<-eX]
 |field t x f=>refine⟨j,?_⟩;rw[<-m];show cM g k h n j _=D0 t x f g k h n j;simp only[cM,D0,ei,eK,eS h,<-eX]
 |indexAddr t x i=>refine⟨j,?_⟩;rw[<-m];show cM g k h n j _=qy t x i g k h n j;simp only[cM,qy,ei,eK,eS h,<-eX]
 |index t x i=>refine⟨j,?_⟩;rw[<-m];show cM g k h n j _=D1 t x i g k h n j;simp only[cM,D1,ei,eK,eS h,<-eX]
 |range t x=>refine⟨j,?_⟩;rw[<-m];show cM g k h n j _=D2 t x g k h n j;simp only[cM,D2,ei,eK,eS h,<-eX]
 |next x b=>refine⟨j,?_⟩;rw[<-m];show cM g k h n j _=JU x b g k h n j;simp only[cM,JU,ei,eK,eS h,<-eX]
 |extract x i=>refine⟨j,?_⟩;rw[<-m];show cM g k h n j _=vJ x i g k h n j;simp only[cM,vJ,ei,eK,eS h,<-eX]
 |_=>cases m
end
section
variable[de]
def nth{α:Type}(l:List α):Nat->Option α:=List.rec (fun _=>none) (fun x _ ih i=>Nat.rec (some x) (fun j _=>ih j) i) l
def yO{α:Type}:∀(l:List α) (i:Nat),nth l i=l[i]?
 |[],i=>by show none=_;simp
 |x::l,0=>rfl
 |x::l,i+1=>by show nth l i=_;rw[yO l i];simp
def Uk(ops:List Oper)(s:GT)(o:Oper):Option Bool:=Option.rec (some true) (fun p=>ob (nth ops p.1) fun q=>ob q.dst fun d=>match lk s.l d (lk s.e d none)with
 |some (.d (.b x))=>some (Yq x p.2)
 |some (.tu [])=>some false
 |_=>none) o.guard
def Q1{ops:Array Oper}{s:GT}{o:Oper}{b:Bool}(h:Uk ops.toList s o=some b):DH s.st ops o=some b:=by
 unfold Uk at h;unfold DH;cases f:o.guard with
 |none=>rw[f]at h;cases h;rfl
 |some p=>
  obtain⟨j,a⟩:=p;rw[f]at h;obtain⟨q,g,h⟩:=bK h;obtain⟨d,i,h⟩:=bK h;rw[yO,az]at g;simp only;rw[g];simp only[aT,i];have k:s.st.e d=lk s.l d (lk s.e d none):=rfl;rw[k];split at h
  .next x c=>
   (try rw[c]);cases h
   show some (x==a)=some (Yq x a);cases x<;>cases a<;>rfl
  .next c=>(try rw[c]);cases h;rfl
  .cases h
section
variable{P:Program}{m:Nat}{ops:Array Oper}{o:Oper}
def N4{s:St}{K:St->Prop}{x:Operand}{t:Array TypeId}(d:fW P f)(hop:o.op=.call ⟨.value x,c,t⟩)(z:iz m o=true)
 {b:List V}(A:callee s x=some (f,a,b))(B:xu s.ev c.toList=some j){C:List Nat}{u:List (Nat×Option dX)}(D:yK P f (a++j++b) s.h C u s.n l r)(M:s.n<=l)
 (p:K ⟨ly s.e o.dst r,ft s.h u,l⟩):mz P m o s K:=by
 refine JF d hop z A B (fun g w j E i F=>(D g s.h w j E (fun _ _=>rfl) (fun k p q=>?_) F).mono fun e N ⟨v,y,G,H,I,J,L⟩=>⟨v,r,_,l,y,G,p,H,I,fun k p=>?_,J⟩)
 .rw[i k p]at q;cases q
 .cases q:y.U k with
  |false=>rfl
  |true=>
   rcases L k q with h1|h1
   .rw[i k (by omega)]at h1;cases h1
   .omega
def U1{s:St}{x:Operand}{B:Array TypeId}(l:fW P f)(L:DH s ops o=some true)(hop:o.op=.call ⟨.value x,c,B⟩)(M:iz m o=true)
 {b C:List V}(N:callee s x=some (f,a,b))(O:xu s.ev c.toList=some C){I:List Nat}{J:List (Nat×Option dX)}(Q:yK P f (a++C++b) s.h I J s.n q r)
 (p:∀g:Gh,(∀k,s.n<=k->k<q->g.U k=false)->∀k,s.n<=k->g.U k=true->q<=k):Loc P m ops ⟨i,o,⟨true,r,J,s.n,q,I⟩⟩ s:=by
 intro u g R w z D S T;refine⟨xT z ((tY D).trans L),fun _=>?_,fun h=>by cases h⟩;have j:∀y,(y=x\/y∈c)->y∈o.op.operands:=by
  intro y A;rw[hop];simp only[Op.operands,Call.operands];rcases A with rfl|A<;>simp_all
 have E:callee u x=some (f,a,b):=by
  rw[<-N];unfold callee;rw[qo D x (j x (.inl rfl))]
 have F:xu u.ev c.toList=some C:=by
  rw[<-O];exact kP fun y A=>qo D y (j y (.inr (by simpa using A)))
 obtain⟨G,t,H⟩:=JI z.ev l hop E F;unfold Oper.wp;rw[t];refine Calls.mono (Q g u.h w G z.rel S (p g T) H) fun e w' ⟨v,W,X,Y,Z,K,k5⟩=>?_;subst X;exact⟨v,W,rfl,z.put (n':=u.n) (d:=o.dst) (jd M) Y Z K,K,k5⟩
end
def Q2(E:En)(c:CL)(s:GT)(d:Option Tmp)(x:Operand)(a:Array Operand):Rs GT:=
 ro 70 (vC E.G s x) fun v=>ro 71 (ko v) fun q=>ro 72 (sj (vC E.G s) a.toList) fun e=>rb (py E c s.h s.n q.1 (ig q.2.1 (ig e q.2.2))) fun b=>.ok (eU s d b.x b.h b.n)
def pA(E:En)(a:Bool)(s:GT)(op:Op):Rs Out:=Option.rec (Option.rec (.no [73]) (fun out=>.ok out) (E.ext op (vC E.G s) (dx s.h) s.n)) (fun out=>.ok out) (GG op E.tab (vC E.G s) (dx s.h) s.n a)
def qz(P:Program)(ext:Op->(Operand->Option V)->bw->Nat->Option Out):Prop:=∀op a h n out,ext op a h n=some out->qp P op a h n out
def GH{P:Program}{E:En}(d:E.G=de.G)(e:dN P E.tab)(f:qz P E.ext){c:Bool}{s:GT}(h:pA E c s op=.ok out):qp P op s.st.ev s.st.h s.st.n out:=by
 unfold pA at h;rw[yL d]at h;cases a:GG op E.tab s.st.ev (dx s.h) s.n c with
 |some o=>
  rw[a]at h;cases h;obtain⟨g,i⟩:=Q0 a;exact qp.Ge e i
 |none=>
  rw[a]at h;cases b:E.ext op s.st.ev (dx s.h) s.n with
  |some o=>simp only[b]at h;cases h;exact f _ _ _ _ _ b
  |none=>simp only[b]at h;cases h
def abz(E:En)(a:Bool)(s:GT)(d:Option Tmp)(op:Op):Rs GT:=
 rb (pA E a s op) fun out=>.ok (eU s d out.x (GC s.n out.us s.h) (Bj s.n out.n))
def mC(op:Op):Option (Operand×Array Operand):=match op with
 |.call c=>Call.rec (fun f a _=>Callee.rec (fun x=>some (x,a)) (fun _ _=>none) (fun _=>none) f) c
 |_=>none
def vK{q:Operand×Array Operand}(h:mC op=some q):∃d,op=.call ⟨.value q.1,q.2,d⟩:=by
 cases op with
 |call c=>
  obtain⟨f,a,d⟩:=c;cases f with
  |value x=>cases h;exact⟨d,rfl⟩
  |invoke x y=>cases h
  |builtin b=>cases h
 |_=>cases h
def Q3(E:En)(a:CL)(b:Bool)(s:GT)(d:Option Tmp)(op:Op):Rs GT:=Option.rec (abz E b s d op) (fun q=>Q2 E a s d q.1 q.2) (mC op)
def aat{α:Type}(a b c:List α):ig a (ig b c)=a++b++c:=by rw[ll,ll,bC]
def N5{P:Program}{E:En}{p:CL}(u:E.G=de.G)(C:dN P E.tab)(D:qv P E.orc)(F:qz P E.ext)(H:xy P p){m:Nat}{I:Bool}{o:Oper}(j:iz m o=true){s y:GT}(h:Q3 E p I s o.dst o.op=.ok y):mz P m o s.st fun t=>t=y.st:=by
 unfold Q3 at h;cases hq:mC o.op with
 |none=>
  rw[hq]at h;obtain⟨out,e,k⟩:=kM h;cases k;refine mz.aan j (GH u C F e) ?_;rw[oR,GD,xU];rfl
 |some q=>
  rw[hq]at h;obtain⟨J,hop⟩:=vK hq;obtain⟨v,e,h⟩:=iH h;obtain⟨⟨f,a,b⟩,k,h⟩:=iH h;obtain⟨z,i,h⟩:=iH h;obtain⟨K,L,h⟩:=kM h;cases h;rw[yL u]at e i;rw[eK]at i;have d:=yM e k;obtain⟨A,M,B⟩:=GB D H L;rw[aat]at B;rcases B with⟨l,n⟩|⟨c,l,n,N,R,O⟩
  .refine N4 l hop j d i n M ?_;rw[oR,A];rfl
  .refine NV (r:=K.x) hop j d i (fun g h w z Q=>n g h w z (DS Q l)) ?_;rw[oR,A,N,O];rfl
def xz(E:En)(a:CL)(c:Nat->Bool)(ops:List Oper)(l:List Oper):Nat->GT->Rs GT:=
 List.rec (fun _ s=>.ok s) (fun o _ ih i s=>ro (Nat.add 2000 i) (Uk ops s o) fun b=>Bool.rec (ih (Nat.succ i) (eU s o.dst (.tu []) s.h s.n)) (rb (pN i (Q3 E a (c i) s o.dst o.op)) (ih (Nat.succ i))) b) l
def rH(E:En)(a:CL)(c:Nat->Bool)(ops:List Oper)(o:Oper)(l:List Oper)(i:Nat)(s:GT):xz E a c ops (o::l) i s=ro (Nat.add 2000 i) (Uk ops s o) fun b=>Bool.rec (xz E a c ops l (Nat.succ i) (eU s o.dst (.tu []) s.h s.n)) (rb (pN i (Q3 E a (c i) s o.dst o.op)) (xz E a c ops l (Nat.succ i))) b:=rfl
def sY{P:Program}{E:En}{r:CL}(g:E.G=de.G)(j:dN P E.tab)(k:qv P E.orc)(n:qz P E.ext)(p:xy P r){m:Nat}{v:Nat->Bool}{ops:Array Oper}:∀{l:List Oper} {i:Nat} {s d:GT},l.all (iz m)=true->xz E r v ops.toList l i s=.ok d->RO P m ops l (fun t=>t=d.st) s.st
 |[],i,s,d,a,h=>by cases h;exact Yg rfl
 |o::l,i,s,d,a,h=>by
  have q:iz m o=true:=by simp only[iW,ax]at a;exact a.1
  have c:(l.all (iz m))=true:=by simp only[iW,ax]at a;exact a.2
  rw[rH]at h;obtain⟨b,f,u⟩:=iH h;have f:=Q1 f;cases b with
  |true=>
   obtain⟨y,w,x⟩:=kM u;exact abw f ((N5 g j k n p q (l4 w)).mono fun t e=>by subst e;exact sY g j k n p c x)
  |false=>
   refine abv f ?_;have:=sY g j k n p c u;rw[oR]at this;exact this
end
section
variable[de]
def pw{α:Type}(R:α->α->Bool):List α->Bool
 |[]=>true
 |x::r=>(r.all fun y=>R x y)&&pw R r
def Q4{α β:Type}(f:α->β)(R:β->β->Bool):∀l:List α,pw R (l.map f)=pw (fun x y=>R (f x) (f y)) l
 |[]=>rfl
 |x::r=>by simp only[bV,pw,Q4 f R r,List.all_map];rfl
def Q5{α:Type}(R S:α->α->Bool):∀l:List α,pw R l=true->pw S l=true->pw (fun x y=>R x y&&S x y) l=true
 |[],_,_=>rfl
 |x::r,a,b=>by
  simp only[pw,ax,aQ]at a b|-;exact⟨fun y c=>⟨a.1 y c,b.1 y c⟩,Q5 R S r a.2 b.2⟩
def Mb{α:Type}{R S:α->α->Bool}(h:∀x y,R x y=true->S x y=true):∀l:List α,pw R l=true->pw S l=true
 |[],_=>rfl
 |x::r,a=>by
  simp only[pw,ax,aQ]at a|-;exact⟨fun y b=>h x y (a.1 y b),Mb h r a.2⟩
def Q6(a:Array Oper)(b:List Nat):∀l:List It,Yh a b l=pw (fun x y=>indep a x y||(b.getD y.i 0).testBit x.i) l
 |[]=>rfl
 |x::r=>by simp only[Yh,pw,Q6 a b r]
def D3(a:Array Oper)(x y:Oper):Bool:=
 (match x.dst with|some d=> !(sV a y).elem d&& !(y.dst==some d)|none=>true)&&
 (match y.dst with|some d=> !(sV a x).elem d|none=>true)
def nE(x y:Tr):Bool:=
 (x.us.all fun u=> !y.rd.elem u.1&& !(y.us.any fun v=>v.1==u.1))&&(y.us.all fun u=> !x.rd.elem u.1)
def GI(a:Array Oper)(x y:It):indep a x y=(D3 a x.o y.o&&nE x.t y.t):=by
 unfold indep D3 nE;simp only[Bool.and_assoc]<;>rfl
def Q7(a:Array Oper):Bool:=pw (fun x y=>D3 a x.1 y.1||((pK a.toList []).getD y.2 0).testBit x.2) a.toList.zipIdx
def D4(l:List Nat):Nat:=List.rec 0 (fun k _ ih=>Nat.lor ih (Nat.shiftLeft 1 k)) l
def sD(l:List (Nat×Option dX)):Nat:=List.rec 0 (fun u _ ih=>Nat.lor ih (Nat.shiftLeft 1 u.1)) l
def yP{l:List Nat}:(D4 l).testBit k=true↔k∈l:=by
 induction l with
 |nil=>show(0:Nat).testBit k=true↔_;simp
 |cons j l ih=>
  show(D4 l||| 1<<<j).testBit k=true↔_;rw[jk,fQ,ih,Nat.shiftLeft_eq,abk,abq,aw];simp only[cI];constructor
  .rintro(h|h)
   .exact .inr h
   .exact .inl h.symm
  .rintro(h|h)
   .exact .inr h.symm
   .exact .inl h
def yQ:∀l:List (Nat×Option dX),sD l=D4 (l.map (·.1))
 |[]=>rfl
 |u::l=>by show(sD l||| 1<<<u.1)=(D4 (l.map (·.1))||| 1<<<u.1);rw[yQ l]
structure Ft where
 i:Nat
 u:Nat
 a:Nat
def Qb(n:Nat):Bool:=Nat.beq n 0
def sE(x y:Ft):Bool:=Bool.rec false (Qb (Nat.land y.u x.a)) (Qb (Nat.land x.u y.a))
def ff(x:It):Ft:=⟨x.i,sD x.t.us,Nat.lor (sD x.t.us) (D4 x.t.rd)⟩
def Q8{a:Nat}(h:Qb (Nat.land a b)=true)(d:a.testBit k=true):b.testBit k=false:=by
 have:Nat.land a b=0:=Nat.eq_of_beq_eq_true h;have c:(a&&&b).testBit k=false:=by
  show(Nat.land a b).testBit k=false;rw[this];simp
 rw[adI,d,Bool.true_and]at c;exact c
def yR{x y:It}(h:sE (ff x) (ff y)=true):nE x.t y.t=true:=by
 obtain⟨j,k⟩:=ic h;have c:∀{p q:It},Qb (Nat.land (ff p).u (ff q).a)=true->∀u∈p.t.us,u.1∉q.t.rd/\∀v∈q.t.us,v.1≠u.1:=fun{p q} l u d=>by
  have m:(ff p).u.testBit u.1=true:=by
   show(sD p.t.us).testBit u.1=true;rw[yQ,yP];exact aL.2 ⟨u,d,rfl⟩
  have b:=Q8 l m;have b:(sD q.t.us||| D4 q.t.rd).testBit u.1=false:=b;rw[jk,oE]at b;refine⟨fun n=>?_,fun v f e=>?_⟩
  .rw[yP.2 n]at b;cases b.2
  .have:(sD q.t.us).testBit u.1=true:=by rw[yQ,yP];exact aL.2 ⟨v,f,e⟩
   rw[this]at b;cases b.1
 unfold nE;simp only[ax,aQ,kb];refine⟨fun u d=>?_,fun u d=>?_⟩
 .obtain⟨g,i⟩:=c j u d;refine⟨by simpa using g,?_⟩;rw[Jh];intro v f;simpa using i v f
 .obtain⟨g,i⟩:=c k u d;simpa using g
def Yu(m k:Nat):Bool:=Nat.beq (Nat.land (Nat.shiftRight m k) 1) 1
def U2(h:Yu m k=true):m.testBit k=true:=by
 have:Nat.land (Nat.shiftRight m k) 1=1:=Nat.eq_of_beq_eq_true h;have a:(m>>>k)&&&1=1:=this;rw[Jj,cI];rw[adf,Up]at a;exact a
def GJ(l:List Nat)(k:Nat):Nat:=Option.rec 0 (fun x=>x) (nth l k)
def U3(l:List Nat)(k:Nat):GJ l k=l.getD k 0:=by
 unfold GJ;rw[yO,ah];cases l[k]? <;>rfl
def Q9(a:List Nat)(x y:Ft):Bool:=Bool.rec (Yu (GJ a y.i) x.i) true (sE x y)
def Ra(f:Ft->Bool)(l:List Ft):Bool:=List.rec true (fun x _ ih=>Bool.rec false ih (f x)) l
def Mc(a:List Nat)(l:List Ft):Bool:=List.rec true (fun y r ih=>Bool.rec false ih (Ra (fun x=>Q9 a x y) r)) l
def Md{f:Ft->Bool}:∀{l:List Ft},Ra f l=true->∀x∈l,f x=true
 |[],_,x,a=>by cases a
 |y::l,h,x,a=>by
  obtain⟨b,c⟩:=ic h;rcases aw.1 a with rfl|a
  .exact b
  .exact Md c x a
def qA(f:Ft)(l:List Ft):List Ft:=Bool.rec (f::l) l (Qb f.a)
def Me{x:It}(h:Qb (ff x).a=true)(y:It):nE x.t y.t=true/\nE y.t x.t=true:=by
 have b:=Nat.eq_of_beq_eq_true h;have e:(ff x).u=0:=by
  apply abl;intro i;have:(ff x).a.testBit i=false:=by rw[b];simp
  have f:(sD x.t.us||| D4 x.t.rd).testBit i=false:=this;rw[jk,oE]at f;rw[adt];exact f.1
 refine⟨yR ?_,yR ?_⟩
 .unfold sE;rw[e,b];have c:Nat.land 0 (ff y).a=0:=p8 _;have d:Nat.land (ff y).u 0=0:=Jk _;rw[c,d];rfl
 .unfold sE;rw[e,b];have c:Nat.land 0 (ff y).a=0:=p8 _;have d:Nat.land (ff y).u 0=0:=Jk _;rw[c,d];rfl
def kq(l:List It):List Ft:=List.rec [] (fun x _ ih=>qA (ff x) ih) l
def B1{x:It}:∀{r:List It},x∈r->Qb (ff x).a=false->ff x∈kq r
 |[],b,_=>by cases b
 |q::r,b,c=>by
  show ff x∈qA (ff q) (kq r);rcases aw.1 b with rfl|b
  .unfold qA;rw[c];exact eH
  .have:=B1 b c;unfold qA;cases Qb (ff q).a with
   |true=>exact this
   |false=>exact di _ this
def Yv{b:List Nat}:∀{l:List It},Mc b (kq l)=true->pw (fun x y=>nE x.t y.t||(b.getD y.i 0).testBit x.i) l.reverse=true:=by
 have f:∀{l:List It},Mc b (kq l)=true->l.Pairwise fun y x=>nE x.t y.t=true\/(b.getD y.i 0).testBit x.i=true:=by
  intro l;induction l with
  |nil=>intro _;exact List.Pairwise.nil
  |cons y r ih=>
   intro h;have h:Mc b (qA (ff y) (kq r))=true:=h;cases g:Qb (ff y).a with
   |true=>
    unfold qA at h;rw[g]at h;exact List.Pairwise.cons (fun x m=>.inl (Me g x).2) (ih h)
   |false=>
    unfold qA at h;rw[g]at h;obtain⟨o,p⟩:=ic h;refine List.Pairwise.cons (fun x m=>?_) (ih p);have c:=Md o;cases d:Qb (ff x).a with
    |true=>exact .inl (Me d y).1
    |false=>
     have e:=B1 m d;have j:=c _ e;unfold Q9 at j;cases n:sE (ff x) (ff y)with
     |true=>exact .inl (yR n)
     |false=>
      rw[n]at j;have:=U2 j;rw[U3]at this;exact .inr this
 intro l h;have q:=f h;have k:=List.pairwise_reverse.2 q;have fin:∀l:List It,(l.Pairwise fun x y=>nE x.t y.t=true\/(b.getD y.i 0).testBit x.i=true)->pw (fun x y=>nE x.t y.t||(b.getD y.i 0).testBit x.i) l=true:=by
  intro l;induction l with
  |nil=>intro _;rfl
  |cons x r ih=>
   intro h;have h:=List.pairwise_cons.1 h;simp only[pw,ax,aQ,fQ];exact⟨h.1,ih h.2⟩
 exact fin _ k
end
end Go.Abs
section
namespace Go
def Exit.hops(J:Nat->Act->World->Prop)(Q:Exit->Act->World->Prop):Exit->Act->World->Prop
 |.goto l,a,w=>J l a w
 |e,a,w=>Q e a w
def Code.hops(P:Program)(c:Code)(Q:Exit->Act->World->Prop):Nat->Code->Act->World->Prop
 |0,_,_,_=>False
 |n+1,d,a,w=>d.wp P (Exit.hops (fun l a w=>∃j,findLabel c l=some j/\Code.hops P c Q n j a w) Q) a w
def Bl{P:Program}{Q:Exit->Act->World->Prop}{a:Act}{w:World}{c:Code}(n:Nat)(h:Code.hops P c Q n c a w):(Code.scope c).wp P Q a w:=by
 intro b k t;have u:∀n d a w,Code.hops P c Q n d a w->∃e v x,Q e v x/\Arrives P (lone (b.at a (.code d::.inScope c::k)) t w) b k t e v x:=by
  intro n;induction n with
  |zero=>intro d a w h;exact h.elim
  |succ n ih=>
   intro d a w h;obtain⟨e,g,i,hq,f⟩:=h b (.inScope c::k) t;cases e with
   |normal=>exact⟨.normal,g,i,hq,Steps.trans f (.one yi)⟩
   |exit id=>exact⟨.exit id,g,i,hq,fun y z=>f y (by simp[exitTo,z])⟩
   |goto l=>
    obtain⟨p,A,B⟩:=hq;have C:gotoIn l (.inScope c::k)=some (.code p::.inScope c::k):=by simp[gotoIn,A]
    obtain⟨q,r,s,o,j⟩:=ih _ _ _ B;exact⟨q,r,s,o,.of_steps (f _ C) j⟩
   |ret=>exact⟨_,g,i,hq,f⟩
   |panic D=>exact⟨_,g,i,hq,f⟩
   |outgrown=>exact⟨_,g,i,hq,f⟩
 obtain⟨e,g,i,hq,f⟩:=u n c a w h;exact⟨e,g,i,hq,.of_steps (.one oI) f⟩
end Go
namespace Go.Abs
open Go.RowKit
variable[de]
section
variable{P:Program}{m:Nat}{Q:Exit->St->Prop}
@[reducible] def jmp(J:Nat->St->Prop)(Q:Exit->St->Prop):Exit->St->Prop
 |.goto l,s=>J l s
 |x,s=>Q x s
def jo:∀{c d:Code} {l:Nat},findLabel c l=some d->∀i,writes c i=false->writes d i=false
 |.seq a b,d,l,h,i,e=>by
  have e:writes a i=false/\writes b i=false:=by simpa[writes]using e
  unfold findLabel at h;split at h
  .next r f=>cases h;simp[writes,jo f i e.1,e.2]
  .exact jo h i e.2
 |.label g,d,l,h,i,e=>by
  unfold findLabel at h;split at h
  .cases h;rfl
  .cases h
 |.skip,d,l,h,i,e=>by cases h
 |.region _ _ _,d,l,h,i,e=>by cases h
 |.cond _ _ _,d,l,h,i,e=>by cases h
 |.block _ _,d,l,h,i,e=>by cases h
 |.loop _,d,l,h,i,e=>by cases h
 |.rangeFunc _ _ _ _,d,l,h,i,e=>by cases h
 |.exit _,d,l,h,i,e=>by cases h
 |.scope _,d,l,h,i,e=>by cases h
 |.goto _,d,l,h,i,e=>by cases h
 |.ret,d,l,h,i,e=>by cases h
 |.refuse _,d,l,h,i,e=>by cases h
end
end Go.Abs
end
namespace Go.Abs
open Go.RowKit
section
variable[de]
def Yw(G:Nat->Option (Nat×List (List D)))(s:GT)(op:Op):List Nat:=(fE op).flatMap fun x=>match vC G s x with
 |some v=>tid v
 |none=>[]
def Yx{G:Nat->Option (Nat×List (List D))}(a:G=de.G)(s:GT)(op:Op):Yw G s op=UI s.st op:=by unfold Yw UI;rw[yL a]<;>rfl
def Rb(E:En)(a:Bool)(s:GT)(d:Option Tmp)(op:Op):Rs (Tr×GT):=
 rb (pA E a s op) fun out=>BY 74 (Nat.ble out.n (Nat.add s.n 2)) (.ok (⟨true,out.x,out.us,s.n,Nat.add s.n 2,ig (Yw E.G s op) (out.us.map (·.1))⟩,eU s d out.x (GC s.n out.us s.h) (Nat.add s.n 2)))
def GK(E:En)(c:CL)(s:GT)(d:Option Tmp)(x:Operand)(a:Array Operand):Rs (Tr×GT):=
 ro 70 (vC E.G s x) fun v=>ro 71 (ko v) fun q=>ro 72 (sj (vC E.G s) a.toList) fun e=>rb (py E c s.h s.n q.1 (ig q.2.1 (ig e q.2.2))) fun b=>.ok (⟨true,b.x,b.us,s.n,b.n,b.rd⟩,eU s d b.x b.h b.n)
def Qc(E:En)(a:CL)(b:Bool)(s:GT)(d:Option Tmp)(op:Op):Rs (Tr×GT):=Option.rec (Rb E b s d op) (fun q=>GK E a s d q.1 q.2) (mC op)
def N6{P:Program}{E:En}{H:CL}(y:E.G=de.G)(N:dN P E.tab)(O:qv P E.orc)(Q:qz P E.ext)(R:xy P H){m:Nat}{S:Bool}{d:Array Oper}{o:Oper}{i:Nat}(z:iz m o=true){s I:GT}{t:Tr}(l:DH s.st d o=some true)(h:Qc E H S s o.dst o.op=.ok (t,I)):
 Loc P m d ⟨i,o,t⟩ s.st/\t.lo=s.n/\s.n<=t.hi/\I.st=⟨ly s.st.e o.dst t.x,ft s.st.h t.us,t.hi⟩:=by
 unfold Qc at h;cases hq:mC o.op with
 |none=>
  rw[hq]at h;obtain⟨out,u,A⟩:=kM h;obtain⟨T,j⟩:=kQ A;cases j;have:=Yj (s:=s.st) (ops:=d) (i:=i) l z (GH y N Q u) T;rw[<-Yx y,<-ll]at this;refine⟨this,rfl,adu _ _,?_⟩;rw[oR,GD];rfl
 |some q=>
  rw[hq]at h;obtain⟨U,hop⟩:=vK hq;obtain⟨v,u,h⟩:=iH h;obtain⟨⟨f,a,b⟩,A,h⟩:=iH h;obtain⟨J,j,h⟩:=iH h;obtain⟨K,V,h⟩:=kM h;cases h;rw[yL y]at u j;rw[eK]at j;have p:=yM u A;obtain⟨W,X,L⟩:=GB O R V;rw[aat]at L;refine⟨?_,rfl,X,by rw[oR,W];rfl⟩;rcases L with⟨B,C⟩|⟨c,B,C,Y,Z,c5⟩
  .exact U1 (s:=s.st) B l hop z p j C (fun g hf k hk M=>by
    rcases cD k K.n with D|F
    .rw[hf k hk D]at M;cases M
    .exact F)
  .have:=UJ (s:=s.st) (i:=i) (ops:=d) (r:=K.x) l z hop p j (fun g h w J l=>C g h w J (DS l B));rw[Y,Z,c5];exact this
def qB(E:En)(d:CL)(e:Nat->Bool)(c:Array Oper)(l:List Oper):Nat->List It->GT->Rs GT:=
 List.rec (fun _ a s=>BY 60 (Mc (pK c.toList []) (kq a)) (.ok s))
  (
   fun o _ ih i a s=>ro (Nat.add 2000 i) (Uk c.toList s o) fun b=>Bool.rec (ih (Nat.succ i) (⟨i,o,⟨false,.tu [],[],s.n,s.n,[]⟩⟩::a) (eU s o.dst (.tu []) s.h s.n))
   (rb (pN i (Qc E d (e i) s o.dst o.op)) fun p=>ih (Nat.succ i) (⟨i,o,p.1⟩::a) p.2) b) l
def nS(E:En)(d:CL)(e:Nat->Bool)(a:Array Oper)(o:Oper)(l:List Oper)(i:Nat)(c:List It)(s:GT):qB E d e a (o::l) i c s=ro (Nat.add 2000 i) (Uk a.toList s o) fun b=>Bool.rec (qB E d e a l (Nat.succ i) (⟨i,o,⟨false,.tu [],[],s.n,s.n,[]⟩⟩::c) (eU s o.dst (.tu []) s.h s.n))
 (rb (pN i (Qc E d (e i) s o.dst o.op)) fun p=>qB E d e a l (Nat.succ i) (⟨i,o,p.1⟩::c) p.2) b:=rfl
def sZ{P:Program}{E:En}{I:CL}(v:E.G=de.G)(w:dN P E.tab)(z:qv P E.orc)(A:qz P E.ext)(B:xy P I){m:Nat}{J:Nat->Bool}{c:Array Oper}(d:Q7 c=true):∀{l:List Oper} {i:Nat} {a:List It} {s f:GT},l.all (iz m)=true->
 (a.reverse.map fun x=>(x.o,x.i))++l.zipIdx i=c.toList.zipIdx->qB E I J c l i a s=.ok f->RDr P m c (fun t=>t=f.st) l i a s.st
 |[],i,a,s,f,g,C,h=>by
  have h:BY 60 (Mc (pK c.toList []) (kq a)) (.ok s)=.ok f:=h;obtain⟨e,r⟩:=kQ h;cases r;refine⟨?_,rfl⟩;have K:(a.reverse.map fun x=>(x.o,x.i))=c.toList.zipIdx:=by simpa using C
  have j:=d;unfold Q7 at j;rw[<-K,Q4]at j;have D:=Yv e;rw[Q6];refine Mb (fun x y k=>?_) _ (Q5 _ _ _ j D);rw[GI];simp only[ax,fQ]at k|-;rcases k with⟨u|u,F|F⟩
  .exact .inl ⟨u,F⟩
  .exact .inr F
  .exact .inr u
  .exact .inr u
 |o::l,i,a,s,f,g,C,h=>by
  have H:iz m o=true:=by simp only[iW,ax]at g;exact g.1
  have p:(l.all (iz m))=true:=by simp only[iW,ax]at g;exact g.2
  rw[nS]at h;obtain⟨b,e,r⟩:=iH h;have e:=Q1 e;have q:∀t:Tr,((⟨i,o,t⟩::a).reverse.map fun x=>(x.o,x.i))++l.zipIdx (i+1)=c.toList.zipIdx:=fun t=>by
   rw[<-C];simp
  cases b with
  |true=>
   obtain⟨⟨t,Q⟩,j,D⟩:=kM r;obtain⟨L,M,N,O⟩:=N6 (i:=i) v w z A B H e (l4 j);have:=sZ v w z A B d p (q t) D;rw[O]at this;exact⟨t,L,M,N,this⟩
  |false=>
   have:=sZ v w z A B d p (q _) r;rw[oR]at this;exact⟨⟨false,.tu [],[],s.n,s.n,[]⟩,QQ (s:=s.st) e,rfl,ae _,this⟩
