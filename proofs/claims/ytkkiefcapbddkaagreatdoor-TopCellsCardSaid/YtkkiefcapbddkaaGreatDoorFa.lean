/- part of topCells.proved -/
import Derived.Test.YtkkiefcapbddkaaGreatDoorCn
set_option linter.all false
set_option maxRecDepth 1000000
set_option maxHeartbeats 0
noncomputable section
namespace Go.Abs
open Go.RowKit Go.Proofs YtkkiefcapbddkaaGreatDoor Mem ep Ord
variable{A B d j:Nat}{F:Nat->Nat}{p:Value}{w:World}
section
attribute[local instance] dZ
structure R4 where
 x:Int
 y:Int
 w:Int
 h:Int
def R4.ds(r:R4):List D:=[iN r.x,iN r.y,iN r.w,iN r.h]
structure Gy where
 node:Int
 n:Nat
 r:R4
def Qh(g:Gy):List D:=iN g.node::.s (List.replicate g.n (.c 119))::iN g.r.x::iN g.r.y::iN g.r.w::iN g.r.h::bh 0 0
def uX(l:List Gy):D:=match l with|[]=>.z|g::t=>.l 58 (Qh g::t.map Qh)
inductive dO|mk(kind node disp bg:Int)(rc ins:R4)(runs:List Gy)(kids:List dO)
def dO.kind:dO->Int|.mk k _ _ _ _ _ _ _=>k
def dO.node:dO->Int|.mk _ n _ _ _ _ _ _=>n
def dO.disp:dO->Int|.mk _ _ d _ _ _ _ _=>d
def dO.bg:dO->Int|.mk _ _ _ b _ _ _ _=>b
def dO.rc:dO->R4|.mk _ _ _ _ r _ _ _=>r
def dO.ins:dO->R4|.mk _ _ _ _ _ r _ _=>r
def dO.runs:dO->List Gy|.mk _ _ _ _ _ _ r _=>r
def dO.kids:dO->List dO|.mk _ _ _ _ _ _ _ k=>k
mutual
def tJ:dO->List D
 |.mk kind node a e f d b c=>iN kind::iN node::iN node::(bh a e++([.s [],.z]++(f.ds++(d.ds++[uX b,match c with|[]=>.z|k::r=>.l 67 (tJ k::qW r)]))))
def qW:List dO->List (List D)
 |[]=>[]
 |k::r=>tJ k::qW r
end
def AD:∀l:List dO,qW l=l.map tJ
 |[]=>rfl
 |k::r=>by unfold qW;rw[AD r];rfl
def p7(l:List dO):D:=match l with|[]=>.z|k::r=>.l 67 (tJ k::qW r)
def pg(t:dO):tJ t=iN t.kind::iN t.node::iN t.node::(bh t.disp t.bg++([.s [],.z]++(t.rc.ds++(t.ins.ds++[uX t.runs,p7 t.kids])))):=by
 cases t with
 |mk a b c d e f g k=>
  unfold tJ p7;rfl
def yf(t:dO):(tJ t).length=67:=by rw[pg];rfl
def AE(l:List dO):p7 l=fJ (l.map tJ):=by
 cases l with
 |nil=>rfl
 |cons k r=>show D.l 67 (tJ k::qW r)=.l 67 (tJ k::r.map tJ);rw[AD]
def ftB(t:dO):Bc:=⟨t.kind,t.node,t.node,bh t.disp t.bg,eQ,zn⟩
def R4.vs(r:R4):List Value:=[r.x,r.y,r.w,r.h]
def Nr(t:dO)(a b:Value):List Value:=(ftB t).cells++(t.rc.vs++(t.ins.vs++[a,b]))
def Fc(t:dO)(a b:Value):(Nr t a b).length=67:=rfl
def AF{W:World}{t:dO}{b:List Value}(h:RA F W (tJ t) b):∃e f,b=Nr t e f/\e.oneCell'=true/\f.oneCell'=true/\RD F W (uX t.runs) e/\RD F W (p7 t.kids) f:=by
 have j:b.length=67:=by rw[h.len,yf]
 rw[pg]at h;have c:b[65]? =some b[65]:=List.getElem?_eq_getElem (by omega);have d:b[66]? =some b[66]:=List.getElem?_eq_getElem (by omega);have d65:=h.at_ 65 (uX t.runs) b[65] rfl c;have d66:=h.at_ 66 (p7 t.kids) b[66] rfl d;refine⟨b[65],b[66],?_,h.one _ (ag c),h.one _ (ag d),d65,d66⟩;have g:=h.take 65;have i:=ku (show((iN t.kind::iN t.node::iN t.node::(bh t.disp t.bg++([.s [],.z]++(t.rc.ds++(t.ins.ds++[uX t.runs,p7 t.kids]))))).take 65).all dP=true from rfl) g;have a:b=b.take 65++[b[65],b[66]]:=by
  conv=>lhs;rw[<-fV 65 b]
  congr 1
  rw[bQ (by omega),bQ (by omega),jC (by omega)]
 rw[i]at a;generalize b[65]=e at a|-;generalize b[66]=f at a|-;rw[a];rfl
mutual
def qX:∀t:dO,∀d∈tJ t,ln d
 |.mk kind node m u v n a b=>by
  intro d hd;rw[pg]at hd;simp only[aw,aJ,bB,eA,R4.ds]at hd;rcases hd with rfl|rfl|rfl|hd|(rfl|rfl)|(rfl|rfl|rfl|rfl)|(rfl|rfl|rfl|rfl)|rfl|rfl
  .exact .i _ _
  .exact .i _ _
  .exact .i _ _
  .exact IG (aQ.1 (bu _ _).p d hd)
  .exact .s _
  .exact .z
  .exact .i _ _
  .exact .i _ _
  .exact .i _ _
  .exact .i _ _
  .exact .i _ _
  .exact .i _ _
  .exact .i _ _
  .exact .i _ _
  .show ln (uX a);cases a with
   |nil=>exact .z
   |cons g r=>exact .l 58 _ (by simp) (by decide) (fun i row j d e f=>by
    have o:=List.mem_of_getElem? e;have q:∃c,row=Qh c:=by
     rcases aw.1 o with h|h
     .exact⟨_,h⟩
     .obtain⟨c,_,h⟩:=List.mem_map.1 h;exact⟨c,h.symm⟩
    obtain⟨c,rfl⟩:=q;have h3:=List.mem_of_getElem? f;unfold Qh at h3;simp only[aw]at h3;rcases h3 with rfl|rfl|rfl|rfl|rfl|rfl|h3
    .exact .i _ _
    .exact .s _
    .exact .i _ _
    .exact .i _ _
    .exact .i _ _
    .exact .i _ _
    .exact IG (aQ.1 (bu _ _).p d h3))
  .show ln (p7 b);cases b with
   |nil=>exact .z
   |cons k r=>exact .l 67 _ (by simp) (by decide) (fun i row j d e f=>Fe (k::r) row (by unfold qW;exact ag e) d (List.mem_of_getElem? f))
def Fe:∀(l:List dO),∀row∈qW l,∀d∈row,ln d
 |[],row,h,_,_=>by unfold qW at h;cases h
 |k::r,row,h,d,a=>by
  unfold qW at h;rcases aw.1 h with rfl|h
  .exact qX k d a
  .exact Fe r row h d a
end
def W5(l:List dO):ln (p7 l):=by
 cases l with
 |nil=>exact .z
 |cons k r=>exact .l 67 _ (by simp) (by decide) (fun i row j d a b=>Fe (k::r) row (by unfold qW;exact ag a) d (List.mem_of_getElem? b))
def Ns{l:List dO}{v:Value}(h:RD F w (p7 l) v):
 ∃A c,v=.slice A l.length c/\(l≠[]->∃b a,A=some ⟨b,a,none⟩/\b<w.heap.size/\0<F b/\∀(i:Nat) t,l[i]? =some t->∃d,w.rangeAt b (a+i*67) d/\RA F w (tJ t) d):=by
 cases l with
 |nil=>cases h;exact⟨none,0,rfl,fun e=>absurd rfl e⟩
 |cons k r=>
  have f:tJ k::qW r=(k::r).map tJ:=by rw[AD];rfl
  obtain⟨b,a,cap,rfl,o,g,j,m⟩:=eV h (by simp);refine⟨_,cap,by rw[f,List.length_map],fun _=>⟨b,a,rfl,g,j (by decide),fun i t n=>m i (tJ t) ?_⟩⟩;rw[f,List.getElem?_map,n];rfl
def gyV(g:Gy):List Value:=(Qh g).map dV
def Ts(g:Gy):(Qh g).all dP=true:=by
 unfold Qh;simp only[iW,ax];refine⟨rfl,?_,rfl,rfl,rfl,rfl,(bu 0 0).p⟩;show(List.replicate g.n (Sb.c 119)).all MP=true;rw[aQ];intro x a;rw[gi a];rfl
def Nt{l:List Gy}{v:Value}(h:RD F w (uX l) v):
 ∃A c,v=.slice A l.length c/\(l≠[]->∃b a,A=some ⟨b,a,none⟩/\b<w.heap.size/\0<F b/\∀(i:Nat) g,l[i]? =some g->w.rangeAt b (a+i*58) (gyV g)):=by
 cases l with
 |nil=>cases h;exact⟨none,0,rfl,fun e=>absurd rfl e⟩
 |cons k r=>
  obtain⟨b,a,cap,rfl,q,m,n,o⟩:=eV h (by simp);refine⟨_,cap,by simp,fun _=>⟨b,a,rfl,m,n (by decide),fun i t p=>?_⟩⟩;obtain⟨s,d,j⟩:=o i (Qh t) (by
   rw[<-bV (f:=Qh),ai,p];rfl)
  rw[ku (Ts t) j]at d;exact d
mutual
def dO.desc:dO->List dO
 |.mk _ _ _ _ _ _ _ j=>dO.jF j
def dO.jF:List dO->List dO
 |[]=>[]
 |k::r=>k::(k.desc++dO.jF r)
end
end
section
attribute[local instance] dZ
def C9(t:dO)(rv kd kv:Value):Array Value:=(Nr t rv kd++[.bool false,.int .i64 0,.int .i64 0,.int .i64 0,.int .i64 0,kv]).toArray
theorem Lt{P:Program}{fn:Func}{a:Array Value}{w:World}(k s c b:Nat)(j:fn.results=#[.tmp k,.cell s c])(v:Value)(l:a.getD k undef=v)(m:a.getD s undef=pt b){t:TypeId}{e:Array Value}(n:aE w b t e)
 (d:TypeDesc)(o:P.underlying c=some d)(p:d.isRow=true)(q:(P.info? c).map (·.size)=some e.size):(results fn a).run P w=.ok (.tuple #[v,.agg e]) w:=by
 have r:=run_loadVar_mid (P:=P) w b 0 c e.toList d n.range o p (by simpa using q);have f:a[s]?.getD undef=pt b:=by simpa using m
 have i:a[k]?.getD undef=v:=by simpa using l
 have u:(asAddr (pt b)).run P w=.ok b w:=rfl;simp[results,j,f,i,Sem.run_bind,r,u]
def Qi:Array Value:=#[zQ,zQ,zQ,zQ]
section
variable{w:World}{g:Nat}{t:dO}{rv kd kv:Value}(h:aE w g 267 (C9 t rv kd kv))
include h
theorem r9:Calls tp 147 #[pt g] w fun e a=>e=false/\w=a:=by
 have b:w.cell? ⟨g,4,none⟩=some (.int .i64 0):=h.cell 4;go_enter Tryz.func147,Tryz.ntmps147
 go_wp2_with fail
 go_ret
 exact⟨rfl,rfl⟩
theorem Lu:Calls tp 148 #[pt g] w fun e a=>e=false/\w=a:=by
 have b:=r9 h;go_enter Tryz.func148,Tryz.ntmps148
 go_wp2_with (go_at_call 147;refine b.mono ?_;rintro e c ⟨rfl,rfl⟩)
 go_ret
 exact⟨rfl,rfl⟩
theorem Da:Calls tp 241 #[pt g] w fun e a=>e=false/\w=a:=by
 have b:=r9 h;have c:w.cell? ⟨g,5,none⟩=some (.int .i64 0):=h.cell 5;go_enter Tryz.func241,Tryz.ntmps241
 go_wp2_with (go_at_call 147;refine b.mono ?_;rintro e d ⟨rfl,rfl⟩)
 go_ret
 exact⟨rfl,rfl⟩
theorem AL:Calls tp 240 #[pt g] w fun e a=>e=false/\w=a:=by
 have b:=r9 h;have c:=Da h;go_enter Tryz.func240,Tryz.ntmps240
 go_wp2_with (first|(go_at_call 147;refine b.mono ?_;rintro e d ⟨rfl,rfl⟩)|(go_at_call 241;refine c.mono ?_;rintro e d ⟨rfl,rfl⟩))
 go_ret
 exact⟨rfl,rfl⟩
theorem PW:Calls tp 239 #[pt g] w fun e a=>e=true/\w=a:=by
 have b:=AL h;go_enter Tryz.func239,Tryz.ntmps239
 go_wp2_with (go_at_call 240;refine b.mono ?_;rintro e c ⟨rfl,rfl⟩)
 go_ret
 exact⟨rfl,rfl⟩
theorem I3:Calls tp 157 #[pt g] w fun e u=>e=tQ #[false,.agg Qi]/\Below w w u:=by
 have b:aE (w.alloc (.cells Qi 35)) w 35 Qi:=aE.new _ _ _;have a:=h.alloc (.cells Qi 35);have c:Below w w (w.alloc (.cells Qi 35)):=(Below.refl _ _).alloc (ae _) _;have v:=h.lt;go_enter Tryz.func157,Tryz.ntmps157
 go_upto_region 1 with fail
 refine bM (fun Z=>aE Z w 35 Qi/\aE Z g 267 (C9 t rv kd kv)/\Below w w Z) ⟨b,a,c⟩ ?_;rintro r ⟨b,a,c⟩;obtain⟨S,i⟩:=iG w.heap.size;rw[<-i]at b c v|-;replace i:=aU i;have j:r.cell? ⟨g,46,none⟩=some (.bool false):=a.cell 46;have k:=a.cell 67;have l:=a.cell 68;have m:=a.cell 69;have n:=a.cell 70;have o:=a.cell 71;have f0:=b.free 0;have f1:=b.free 1;have f2:=b.free 2;have f3:=b.free 3;go_upto_region 2 with fail
 refine a8 ?_;refine dW (S:=fun Z:World=>Z.cell? ⟨g,67,none⟩=some (.bool false)/\Z.cell? ⟨g,68,none⟩=some (.int .i64 0)/\Z.cell? ⟨g,69,none⟩=some (.int .i64 0)/\Z.cell? ⟨g,70,none⟩=some (.int .i64 0)/\Z.cell? ⟨g,71,none⟩=some (.int .i64 0)) 9 [1,1,1,1,1,1,1,1,1,0] (by kernel_rfl) (fun _ _ _ _ _ h=>h) (⟨a.drew.cell 67,a.drew.cell 68,a.drew.cell 69,a.drew.cell 70,a.drew.cell 71⟩) (fun x=>?_);simp only[osq,fL,aF,ap];iterate 9 (apply cU;rfl;(intro w y;go_simp;try(with_reducible rfl));simp only[Act.put,zA,zB,zC])
 refine lW rfl rfl (fun K s=>?_);refine fH 35 _ _ rfl S 0 Qi rfl rfl 35 [] Qi.toList [] (by simpa using b.drew) rfl rfl (by kernel_rfl) (by simp[Qi,Value.oneCell']) ?_;intro z d f;refine s.out _ _ ?_;clear s K;refine fA (a7 ?_);have p:aE z S 35 Qi:=by simpa using d
 have q:=(c.trans (Below.refl S r).drew).trans (f.below (Nat.le_refl _));clear d f b a c j k l m n o f0 f1 f2 f3;go_wp2_with fail
 refine ej (Lt 2 3 35 S rfl _ rfl rfl p _ Tryz.underlying35 rfl (by kernel_rfl)) rfl ?_;rw[<-i.out];exact⟨rfl,q⟩
end
end
section
attribute[local instance] dZ
def Xe(R:Nat->Nat->Value->dO->Prop)(d e:Nat)(f:Value)(b:List Value)(c:List dO):Prop:=
 b.length=c.length/\∀(i:Nat) p t,b[i]? =some p->c[i]? =some t->∃a m,d<=a/\m<=e/\(∀g,f.ownBlock=some g->g<a\/m<=g)/\R a m p t
def lH(F:Nat->Nat)(w:World):Nat->Nat->Nat->Value->dO->Prop
 |0,_,_,_,_=>False
 |d+1,h,c,p,t=>∃g e i a f,p=.pointer (some ⟨g,0,none⟩)/\h<=g/\g<c/\aE w g 267 (C9 t e i a)/\RD F w (uX t.runs) e/\w.ownsRow (g+1) 155 1 a t.kids.length f/\(∀b,a.ownBlock=some b->b<c)/\Xe (lH F w d) (g+1) c a f t.kids
def Xe.imp{R C:Nat->Nat->Value->dO->Prop}{B:Value}{D:List Value}{E:List dO}(h:Xe R j A B D E)(hR:∀a m p t,j<=a->m<=A->(∀g,B.ownBlock=some g->g<a\/m<=g)->R a m p t->C a m p t):Xe C j A B D E:=
 ⟨h.1,fun i p t L M=>by
  obtain⟨a,m,H,I,J,N⟩:=h.2 i p t L M;exact⟨a,m,H,I,J,hR a m p t H I J N⟩⟩
def pi(t:dO):ln (uX t.runs):=qX t _ (by rw[pg];simp)
def lH.keep{F:Nat->Nat}{w w':World}(C:Kept F w F w'):∀{d j A:Nat} {p:Value} {t:dO},(∀b,j<=b->b<A->w'.heap[b]? =w.heap[b]?)->lH F w d j A p t->lH F w' d j A p t
 |0,_,_,_,_,_,h=>h.elim
 |d+1,j,A,p,t,B,h=>by
  obtain⟨g,L,M,N,O,rfl,D,E,P,Q,H,I,R⟩:=h;refine⟨g,L,M,N,O,rfl,D,E,(B g D E).trans P,Q.move C (pi t),aZ H (fun b J _=>B b (by have:=(H.lt b J).1;omega) (I b J)),I,R.imp fun a m p t T V _ S=>?_⟩;exact lH.keep C (fun b W X=>B b (by omega) (by omega)) S
def lH.wide{C:Nat}{t:dO}(h:lH F w d B C p t)(W:j<=B)(X:C<=A):lH F w d j A p t:=by
 cases d with
 |zero=>exact h.elim
 |succ d=>
  obtain⟨g,E,H,I,J,rfl,Y,Z,L,M,N,O,D⟩:=h;refine⟨g,E,H,I,J,rfl,by omega,by omega,L,M,N,fun b P=>by have:=O b P;omega,D.1,fun i p t Q R=>?_⟩;obtain⟨a,m,S,q2,T,V⟩:=D.2 i p t Q R;exact⟨a,m,S,by omega,T,V⟩
def lH.ptr{t:dO}(h:lH F w d j A p t):∃g,p=.pointer (some ⟨g,0,none⟩)/\j<=g/\g<A:=by
 cases d with
 |zero=>exact h.elim
 |succ d=>
  obtain⟨g,D,E,H,I,rfl,B,C,J⟩:=h;exact⟨g,rfl,B,C⟩
def Xe.push{w':World}{H I hi':Nat}{J kv':Value}{L:List Value}{N:List dO}{t:dO}(h:Xe (lH F w d) H I J L N)(Q:∀b,H<=b->b<I->J.ownBlock≠some b->w'.heap[b]? =w.heap[b]?)(R:Kept F w F w')
 (S:lH F w' d j B p t)(T:H<=j)(h1:I<=hi')(V:B<=hi')(W:j<=B)(h3:I<=j)(X:∀g,J.ownBlock=some g->g<j)(C:∀g,kv'.ownBlock=some g->J.ownBlock=some g\/B<=g):Xe (lH F w' d) H hi' kv' (L++[p]) (N++[t]):=by
 have O:=h.1;refine⟨by simp[O],fun i Y Z A D=>?_⟩;by_cases hi':i<L.length
 .rw[an hi']at A;rw[an (by omega)]at D;obtain⟨a,m,k1,k2,P,k4⟩:=h.2 i Y Z A D;refine⟨a,m,k1,by omega,fun g M=>?_,k4.keep R (fun b b1 b2=>Q b (by omega) (by omega) (fun e=>by have:=P b e;omega))⟩;rcases C g M with q|q
  .exact P g q
  .right;omega
 .rw[ay (by omega)]at A D;have E:i-L.length=0:=by have:=(aa.1 A).1;simp at this;omega
  rw[E]at A;rw[<-O,E]at D;cases A;cases D;refine⟨j,B,T,V,fun g M=>?_,S⟩;rcases C g M with q|q
  .left;exact X g q
  .right;exact q
def PX:Nat->dO->Prop
 |0,_=>False
 |d+1,t=>t.kids.length<=1000/\∀k∈t.kids,PX d k
def ZW(t:dO)(a b c v:Value):(C9 t a b c).setIfInBounds 72 v=C9 t a b v:=rfl
def I4:(Tryz.prog.info? 155).map (fun i=>(i.zero,i.size,i.bytes))=some (some (.pointer none),1,8):=by kernel_rfl
def Xf(t:dO){a c:Value}(e:a.oneCell'=true)(f:c.oneCell'=true):∀u∈Nr t a c,u.oneCell'=true:=by
 intro u d;unfold Nr at d;rcases aJ.1 d with h|h
 .exact Bc.pV (b:=ftB t) ⟨bu _ _,rfl⟩ u h
 .simp only[R4.vs,aw,aJ,bB,eA]at h;rcases h with(rfl|rfl|rfl|rfl)|(rfl|rfl|rfl|rfl)|rfl|rfl;all_goals first|exact e|exact f|rfl
def I5{F:Nat->Nat}:∀(d:Nat) (t:dO),PX d t->∀(w:World) (us:List Value),Gk F w->RA F w (tJ t) us->
 Calls tp 58 #[.agg us.toArray,false,.agg #[zQ,zQ,zQ,zQ]] w fun e H=>∃p,e=.returned p/\Below w w H/\lH F H d w H p t
 |0,t,hd,w,us,hk,j=>hd.elim
 |d+1,t,hd,w,us,hk,j=>by
  have ih:=I5 (F:=F) d;obtain⟨hkl,g7⟩:=hd;obtain⟨i9,hi9,hy9,hw9,hv9⟩:=info_parts I4;obtain⟨r,kd,rfl,wl,wn,hrv,em⟩:=AF j;obtain⟨A,c,rfl,-⟩:=Ns em;replace j:=trivial;replace g7:=aU g7;have hone:=Xf t wl wn;replace hone:=aU hone;obtain⟨S,z⟩:=iG w.heap.size;have g8:aE ((w.alloc (.cells (Nr t r (.slice A t.kids.length c)).toArray 70)).alloc (.cells #[zQ,zQ,zQ,zQ] 35)) S 70 (Nr t r (.slice A t.kids.length c)).toArray:=by rw[z];exact(aE.new _ _ _).alloc _
  have m:aE ((w.alloc (.cells (Nr t r (.slice A t.kids.length c)).toArray 70)).alloc (.cells #[zQ,zQ,zQ,zQ] 35)) (S+1) 35 #[zQ,zQ,zQ,zQ]:=aE.newAt _ _ _ (by rw[z];simp);have ww:Below S w ((w.alloc (.cells (Nr t r (.slice A t.kids.length c)).toArray 70)).alloc (.cells #[zQ,zQ,zQ,zQ] 35)):=by rw[z];exact((Below.refl _ _).alloc (ae _) _).alloc (by simp) _
  go_enter Tryz.func58,Tryz.ntmps58
  go_upto_region 1 with fail
  generalize (w.alloc (.cells (Nr t r (.slice A t.kids.length c)).toArray 70)).alloc (.cells #[zQ,zQ,zQ,zQ] 35)=w1 at*;rw[<-z];replace z:=aU z;have z0:=m.cell 0;have z1:=m.cell 1;have z2:=m.cell 2;have z3:=m.cell 3;go_wp2_with (refine dg 70 _ rfl rfl ?_)
  refine⟨eu rfl rfl rfl g8 Tryz.underlying70 rfl (lb (Fc _ _ _)) ?_⟩;simp only[Act.put,zA,zB,zC];go_wp2_with (refine Ay _ _ rfl ?_)
  refine⟨iK rfl (.agg (C9 t r (.slice A t.kids.length c) zn)) w1 (by kernel_rfl) ?_⟩;simp only[Act.put,zA,zB,zC];go_upto_region 2 with fail
  have I:aE (w1.alloc (.cells (C9 t r (.slice A t.kids.length c) zn) 267)) w1 267 (C9 t r (.slice A t.kids.length c) zn):=aE.new _ _ _;have ii:=g8.alloc (.cells (C9 t r (.slice A t.kids.length c) zn) 267);have Do:=ww.alloc (by have:=m.lt;omega) (.cells (C9 t r (.slice A t.kids.length c) zn) 267);have hSg:=m.lt;clear g8 m ww z0 z1 z2 z3;generalize w1.alloc (.cells (C9 t r (.slice A t.kids.length c) zn) 267)=w2 at*;generalize w1.heap.size=g at*;have io:=I3 I;simp only[Qi]at io;go_upto_region 2 with fail
  go_upto_region 3 with(go_at_call 157;go_loud (refine io.mono ?_;rintro e w3 ⟨rfl,R⟩))
  have ip:=I.below R I.lt;have H1:=ii.below R ii.lt;have hg3:=ip.lt;have In:=Do.trans (R.mono (by have:=I.lt;omega));have UV:=ip.alloc (.cells #[zQ,zQ,zQ,zQ] 35);have WF:=H1.alloc (.cells #[zQ,zQ,zQ,zQ] 35);have WP:aE (w3.alloc (.cells #[zQ,zQ,zQ,zQ] 35)) w3 35 #[zQ,zQ,zQ,zQ]:=aE.new _ _ _;have hB4:=In.alloc (by omega) (.cells #[zQ,zQ,zQ,zQ] 35);clear ip H1 In I ii Do R io;generalize w3.alloc (.cells #[zQ,zQ,zQ,zQ] 35)=w4 at*;generalize w3.heap.size=gz at*;have c66:w4.cell? (S,66)=some (.slice A t.kids.length c):=WF.cell 66;have x:Xe (lH F w4 d) (g+1) w4 zn [] (t.kids.take 0):=⟨rfl,fun i p t T h2=>by simp at T⟩;replace x:=aU x;go_wp2_with fail
  go_loopw [25] (fun s25 wr=>∃(i:Nat) (kv:Value) (ps:List Value),i<=t.kids.length/\s25=i/\aE wr g 267 (C9 t r (.slice A t.kids.length c) kv)/\aE wr gz 35 #[zQ,zQ,zQ,zQ]/\Below S w wr/\wr.ownsRow (g+1) 155 1 kv i ps/\Hid (Xe (lH F wr d) (g+1) wr kv ps (t.kids.take i))) (fun s _=>t.kids.length-(intOf s).toNat)
  case atStart=>exact⟨0,zn,[],aM _,rfl,UV,WP,hB4,dl _ _ _ _,x⟩
  case round=>
   clear UV WF WP hB4 c66 x;obtain⟨i,kv,ps,hi,rfl,hP,hZ,hB,ho,hPK⟩:=hrel;obtain⟨Ak,ck,rfl,-⟩:=aV ho;have hgl:=hP.lt;have i8:=Kept.below hB (fun b a=>by rw[z.out];exact hk.lt a);by_cases jp:i<t.kids.length
   .have hd1:=lJ i t.kids.length (by omega);have hkr:=em.move i8 (W5 _);obtain⟨A',c',hve,hgt⟩:=Ns hkr;obtain⟨b0,lw,rfl,hb0,hFb,hat⟩:=hgt (fun e=>by rw[e]at jp;simp at jp);injection hve with q1 q2 q3;subst q1 q3;clear q2;obtain⟨k,J⟩:∃k,t.kids[i]? =some k:=⟨_,List.getElem?_eq_getElem jp⟩;have hkH:=g7.out k (List.mem_of_getElem? J);obtain⟨vs,hrg,j⟩:=hat i k J;have U:vs.length=67:=by rw[j.len,yf]
    have eq:wr.rangeAt b0 (lw+i*67) vs.toArray.toList:=by simpa using hrg
    replace hat:=trivial;replace hgt:=trivial;replace hve:=trivial;replace hrg:=trivial;replace J:=aU J;replace hkr:=trivial;go_wp2_with (refine aX 70 rfl ?_)
    refine⟨bY rfl 70 _ rfl b0 (lw+i*67) rfl vs.toArray _ eq Tryz.underlying70 rfl (lb U) ?_⟩;simp only[Act.put,zA,zB,zC];go_wp2_with (refine aX 70 rfl ?_)
    refine⟨dK vs.toArray rfl rfl rfl rfl (aE.new _ _ _) (by simp only[bj,U];rfl) (lb U) (kF j.one) ?_⟩;intro w5 L hC5;simp only[Act.put,zA,zB,zC];have n:=((Below.refl _ _).alloc (ae _) _).trans (hC5.below (Nat.le_refl _));have V:=hP.below n hP.lt;have o:=hZ.below n hZ.lt;have W:=hB.trans (n.mono (by omega));have ho5:=ca ho n;have ge:=j.move (Kept.below n (fun b a=>(hk.kept i8 (by have:=hB.size;rw[<-z.out];omega)).lt a)) (qX k);have hs5:=n.size;have hg5:=L.lt;clear hC5 eq j;go_upto_region 6 with fail
    refine a8 ?_;refine dW (S:=fun Z:World=>Z.cell? (g,72)=some (.slice Ak i ck)/\aE Z wr 70 vs.toArray/\Z.cell? gz=zQ/\Z.cell? (gz,1)=zQ/\Z.cell? (gz,2)=zQ/\Z.cell? (gz,3)=zQ) 13 [1,1,1,1,1,1,1,1,0,0,0,1,1,0] (by kernel_rfl) (fun _ _ _ _ _ h=>h) (⟨V.drew.cell 72,L.drew,o.drew.cell 0,o.drew.cell 1,o.drew.cell 2,o.drew.cell 3⟩) (fun hS0=>?_);simp only[osq,fL,aF,ap];iterate 5 (apply cU;rfl;(intro w hSw;go_simp;try(with_reducible rfl));simp only[Act.put,zA,zB,zC])
    (refine gT (cQ rfl _ _ rfl wr 0 rfl vs.toArray.toList _ (fun H h=>by simpa using h.2.1.range) Tryz.underlying70 rfl (by rw[aH];exact lb U)) ?_;simp only[Act.put,zA,zB,zC])
    iterate 2 (apply cU;rfl;(intro w hSw;go_simp;try(with_reducible rfl));simp only[Act.put,zA,zB,zC])
    refine cC rfl rfl (fun K M=>?_);go_simp
    refine(ih k hkH w5.drew vs (hk.below (W.trans (Below.refl S w5).drew) (fun b a=>by rw[z.out];exact hk.lt a)) (ge.move (Kept.below (Below.refl w5 w5).drew (fun b a=>(hk.below W (fun b a=>by rw[z.out];exact hk.lt a)).lt a)) (qX k))).mono ?_;rintro e X ⟨p6,rfl,f,Y⟩;have hlo:w5.drew.heap.size=w5.heap.size:=rfl;rw[hlo]at f Y;obtain⟨G,rfl,hgp1,hgp2⟩:=Y.ptr;have f:=(Below.refl w5 w5).drew.trans f;have mp:=V.below f V.lt;have n6:=L.below f L.lt;have B:=o.below f o.lt;have ho6:=ca ho5 f;have pm:=W.trans (f.mono (by omega));have hs6:=f.size;simp only[Act.put,zA,zB,zC];refine M.out _ _ (⟨mp.cell 72,n6,B.cell 0,B.cell 1,B.cell 2,B.cell 3⟩) (fun _=>?_);clear M K;refine cC rfl rfl (fun K M=>?_);refine gK (v:=(X.heap.size,1,1)) (w':=X.alloc (.cells #[pt G] 155)) (by kernel_rfl) ?_;have am:=mp.alloc (.cells #[pt G] 155);have a5:=n6.alloc (.cells #[pt G] 155);have l:=B.alloc (.cells #[pt G] 155);have N:=ho6.alloc (.cells #[pt G] 155);have hB7:=pm.alloc (by omega) (.cells #[pt G] 155);have hnw:=df (aE.new X 155 #[pt G]) (news:=[pt G]) rfl;have O:(X.alloc (.cells #[pt G] 155)).heap.size=X.heap.size+1:=by simp
    simp only[Act.put,zA,zB,zC];refine M.out _ _ (⟨am.cell 72,a5,l.cell 0,l.cell 1,l.cell 2,l.cell 3⟩) (fun _=>?_);clear M K;refine cC rfl rfl (fun K M=>?_);refine du (X.alloc (.cells #[pt G] 155)) _ _ 258 rfl (g+1) 155 i9 (.pointer none) 1 8 Tryz.underlying258 hi9 hy9 hw9 hv9 rfl (by decide) (.slice Ak i ck) i _ rfl N X 1 1 [pt G] rfl rfl hnw (by simp[Value.oneCell']) (by unfold maxLen;omega) (by omega) (by rw[O];omega) ?_;intro kv8 w8 qr C hf8;have a9:aE w8 g 267 _:=(C.block g am.lt (fun e=>by have:=(N.lt g e.symm).1;omega)).trans am;have hK8:=(C.block _ a5.lt (fun e=>by have:=(ho.lt _ e.symm).2;omega)).trans a5;have D:aE w8 gz 35 _:=(C.block _ l.lt (fun e=>dM N l (by decide) e.symm)).trans l;have hB8:=dw hB7 N C (by omega) (by rw[O];omega);simp only[Act.put,zA,zB,zC];refine M.out _ _ (⟨a9.cell 72,hK8,D.cell 0,D.cell 1,D.cell 2,D.cell 3⟩) (fun _=>?_);clear M K;iterate 2 (apply cU;rfl;(intro w hSw;go_simp;try(with_reducible rfl));simp only[Act.put,zA,zB,zC])
    refine lW rfl rfl (fun K M=>?_);have q2:=a9.free 72;obtain⟨P,Q,rfl,-⟩:=aV qr;go_simp
    (try simp only[Act.put,zA,zB,zC])
    refine M.out _ _ ?_;clear M K;refine fA (a7 ?_);have E:=fp.setCell w8 (g,72) (.slice P (i+1) Q);have hP9:aE (w8.setCell (g,72) (.slice P (i+1) Q)) g 267 (C9 t r (b0,lw,t.kids.length,c) (.slice P (i+1) Q)):=by
     have:=a9.put 72 (.slice P (i+1) Q);rwa[ZW]at this
    have hZ9:=D.dA E (fun e=>by have e:gz=g:=e;omega);have rg:=hB8.trans (E.below (show S<=g by omega));have hs8:=C.size;rw[O]at hs8;have ho9:=aZ (w':=w8.setCell (g,72) (.slice P (i+1) Q)) qr (fun b a _=>E.other b (fun e=>by have e:b=g:=e;have:=(qr.lt b a).1;omega));have q:∀b,g+1<=b->b<X.heap.size->(Value.slice Ak i ck).ownBlock≠some b->(w8.setCell (g,72) (.slice P (i+1) Q)).heap[b]? =X.heap[b]? :=fun b b1 b2 b3=>
     ((E.other b (fun e=>by have e:b=g:=e;omega)).trans (C.block b (by rw[O];omega) (fun e=>b3 e.symm))).trans (aG _ _ b2)
    have un:∀(H:World) (b:Nat),Below S w H->0<F b->H.heap[b]? =w.heap[b]? :=fun H b T h2=>T.block b (by rw[z.out];exact hk.lt h2);have ut:∀(u u':World),Below S w u->Below S w u'->Kept F u F u':=fun u u' T h2 b a=>⟨rfl,(un u' b h2 a).trans (un u b T a).symm⟩;have hn9:=Y.keep (ut _ _ pm rg) (fun b b1 b2=>q b (by omega) b2 (fun e=>by have:=(ho.lt b e).2;omega));have y:=hPK.out.push (w':=w8.setCell (g,72) (.slice P (i+1) Q)) (hi':=(w8.setCell (g,72) (.slice P (i+1) Q)).heap.size) (kv':=.slice P (i+1) Q) (fun b b1 b2 b3=>(q b b1 (by omega) b3).trans ((f.block b (by omega)).trans (n.block b b2))) (ut _ _ hB rg) hn9 (by omega) (by rw[E.size];omega) (by rw[E.size];omega) (by omega) (by omega) (fun b a=>by have:=(ho.lt b a).2;omega) (fun b a=>by
     rcases hf8 with T|⟨g',T,h2⟩
     .left;rw[<-T];exact a
     .right;rw[O]at h2;rw[T]at a;cases a;omega)
    have htk:t.kids.take (i+1)=t.kids.take i++[k]:=by rw[bJ,J.out];rfl
    rw[<-htk]at y;replace y:=aU y;clear a9 hK8 D hB8 am a5 l hB7 N hnw mp n6 B pm ho6 V L o W ho5 ge q un ut hn9 Y;go_wp2_with fail
    go_roundw
    case rel=>exact⟨i+1,.slice P (i+1) Q,ps++[.pointer (some ⟨G,0,none⟩)],by omega,by go_num,hP9,hZ9,rg,ho9,y⟩
    case measure=>simp[intOf];omega
   .have hie:i=t.kids.length:=by omega
    have hd1:=decide_eq_false (by omega);subst hie;go_wp2_with fail
    go_ret
    rw[z.out]at hB;have hpk:=hPK.out;rw[bL]at hpk;exact⟨_,rfl,hB,g,r,_,_,ps,rfl,by rw[<-z.out];omega,hP.lt,hP,hrv.move i8 (pi t),ho,fun b a=>(ho.lt b a).2,hpk⟩
end
section
attribute[local instance] dZ
def nK(g:Nat):Value:=pt g
def pj(F:Nat->Nat)(w:World)(b:Nat)(p:Value)(t:dO):Prop:=∃g a c d,p=.pointer (some ⟨g,0,none⟩)/\g<b/\aE w g 267 (C9 t a c d)/\RD F w (uX t.runs) a
def fO(F:Nat->Nat)(w:World)(c:Nat)(a:List Value)(b:List dO):Prop:=a.length=b.length/\∀(i:Nat) p t,a[i]? =some p->b[i]? =some t->pj F w c p t
def lH.node{t:dO}(h:lH F w d A j p t):pj F w j p t:=by
 cases d with
 |zero=>exact h.elim
 |succ d=>
  obtain⟨g,B,C,D,J,rfl,L,E,H,I,M⟩:=h;exact⟨g,B,C,D,rfl,E,H,I⟩
def pj.below{F:Nat->Nat}{w j:World}{A:Nat}{p:Value}{t:dO}(h:pj F w A p t)(C:Below A w j)(D:Kept F w F j):pj F j A p t:=by
 obtain⟨g,E,H,I,rfl,B,J,L⟩:=h;exact⟨g,E,H,I,rfl,B,J.below C B,L.move D (pi t)⟩
def pj.wide{t:dO}(h:pj F w A p t)(I:A<=j):pj F w j p t:=by
 obtain⟨g,B,C,D,rfl,J,E,H⟩:=h;exact⟨g,B,C,D,rfl,by omega,E,H⟩
def fO.nil(F:Nat->Nat)(w:World)(j:Nat):fO F w j [] []:=⟨rfl,fun i p t h=>by simp at h⟩
def fO.one{t:dO}(h:pj F w j p t):fO F w j [p] [t]:=⟨rfl,fun i C D A B=>by
 cases i with
 |zero=>cases A;cases B;exact h
 |succ i=>simp at A⟩
def fO.app{C E:List Value}{H I:List dO}(h:fO F w B C H)(k:fO F w B E I):fO F w B (C++E) (H++I):=by
 have J:=h.1;refine⟨by simp[h.1,k.1],fun i p t j A=>?_⟩;by_cases D:i<C.length
 .rw[an D]at j;rw[an (by omega)]at A;exact h.2 i p t j A
 .rw[ay (by omega)]at j A;rw[J]at j;exact k.2 _ p t j A
def fO.below{F:Nat->Nat}{w j:World}{A:Nat}{B:List Value}{C:List dO}(h:fO F w A B C)(D:Below A w j)(E:Kept F w F j):fO F j A B C:=⟨h.1,fun i p t H I=>(h.2 i p t H I).below D E⟩
def fO.wide{F:Nat->Nat}{w:World}{A j:Nat}{B:List Value}{C:List dO}(h:fO F w A B C)(D:A<=j):fO F w j B C:=⟨h.1,fun i p t E H=>(h.2 i p t E H).wide D⟩
def AM:∀(l:List dO) (k:dO),dO.jF (l++[k])=dO.jF l++k::k.desc
 |[],k=>by simp[dO.jF]
 |x::l,k=>by simp[dO.jF,AM l k]
def oB(t:dO):t.desc=dO.jF t.kids:=by cases t;rfl
def X4{F:Nat->Nat}{gs go gt gw:Nat}:∀(d:Nat) (t:dO),PX d t->∀(w:World) (y z:Nat) (p:Value),lH F w d y z p t->aE w gs 260 #[.func (.func 147) #[] #[]]->aE w gt 260 #[.func (.func 148) #[] #[]]->aE w gw 154 #[.func (.func 233) #[] #[nK gs,nK go,nK gt,nK gw]]->
 Calls tp 233 #[p,nK gs,nK go,nK gt,nK gw] w fun e I=>e=rQ/\w=I
 |0,t,l,_,_,_,_,_,_,_,_=>l.elim
 |d+1,t,l,w,y,z,p,J,B,C,D=>by
  have ih:=X4 (F:=F) (gs:=gs) (go:=go) (gt:=gt) (gw:=gw) d;obtain⟨K,f⟩:=l;obtain⟨g,Y,Z,kv,L,rfl,h1,h2,M,N,n,O,b⟩:=J;obtain⟨A,c,rfl,hc⟩:=aV n;have P:=b.1;replace f:=aU f;replace b:=aU b;have Q:w.cell? (g,72)=some (.slice A t.kids.length c):=M.cell 72;have cs:w.cell? gs=some (.func (.func 147) #[] #[]):=B.cell 0;have ct:w.cell? gt=some (.func (.func 148) #[] #[]):=C.cell 0;have cw:w.cell? gw=some (.func (.func 233) #[] #[pt gs,pt go,pt gt,pt gw]):=D.cell 0;simp only[nK]at ih|-;go_enter Tryz.func233,Tryz.ntmps233
  go_wp2_with fail
  go_loopw [13] (fun s wr=>∃i:Nat,i<=t.kids.length/\s=i/\wr=w) (fun s _=>t.kids.length-(intOf s).toNat)
  case atStart=>exact⟨0,aM _,rfl,rfl⟩
  case round=>
   obtain⟨i,R,rfl,rfl⟩:=hrel;by_cases o:i<t.kids.length
   .have r:=lJ i t.kids.length (by omega);obtain⟨k,E⟩:∃k,t.kids[i]? =some k:=⟨_,List.getElem?_eq_getElem o⟩;obtain⟨q,hq⟩:∃q,L[i]? =some q:=⟨_,List.getElem?_eq_getElem (by omega)⟩;obtain⟨a,m,-,-,-,hR⟩:=b.out.2 i q k hq E;have u:=f.out k (List.mem_of_getElem? E);obtain⟨S,rq,dq,vq,rfl,q1,G,q2⟩:=hR.node;obtain⟨j,cr,T,-,-,-⟩:=dL n (by omega);injection T with U V W;subst U;clear V W;have cq:wr.cell? (j,i)=pt S:=by
     have:=n.cells (g:=j) rfl i _ hq;have X:(j:Addr).add i=(j,i):=by cases i<;>simp[Addr.add]
     rwa[X]at this
    have v:=r9 G;have x:=Lu G;have h:=ih k u wr a m _ hR B C D;go_wp2_with (first|(go_at_call 147;go_loud (refine v.mono ?_;rintro e H ⟨rfl,rfl⟩))|(go_at_call 148;go_loud (refine x.mono ?_;rintro e H ⟨rfl,rfl⟩))|(go_at_call 233;go_loud (refine h.mono ?_;rintro e H ⟨rfl,rfl⟩)))
    go_roundw
    case rel=>exact⟨i+1,by omega,by go_num,trivial⟩
    case measure=>simp[intOf];omega
   .have r:=Di i t.kids.length (by omega);go_wp2_with fail
    exact cP (cL rfl _ _ _) rfl ⟨rfl,rfl⟩
def TJ{F:Nat->Nat}{gs go gt gw:Nat}:∀(d:Nat) (t:dO),PX d t->∀(w:World) (y z:Nat) (p:Value),lH F w d y z p t->aE w gs 260 #[.func (.func 241) #[] #[]]->aE w gt 260 #[.func (.func 240) #[] #[]]->aE w gw 154 #[.func (.func 233) #[] #[nK gs,nK go,nK gt,nK gw]]->
 Calls tp 233 #[p,nK gs,nK go,nK gt,nK gw] w fun e I=>e=rQ/\w=I
 |0,t,l,_,_,_,_,_,_,_,_=>l.elim
 |d+1,t,l,w,y,z,p,J,B,C,D=>by
  have ih:=TJ (F:=F) (gs:=gs) (go:=go) (gt:=gt) (gw:=gw) d;obtain⟨K,f⟩:=l;obtain⟨g,Y,Z,kv,L,rfl,h1,h2,M,N,n,O,b⟩:=J;obtain⟨A,c,rfl,hc⟩:=aV n;have P:=b.1;replace f:=aU f;replace b:=aU b;have Q:w.cell? (g,72)=some (.slice A t.kids.length c):=M.cell 72;have cs:w.cell? gs=some (.func (.func 241) #[] #[]):=B.cell 0;have ct:w.cell? gt=some (.func (.func 240) #[] #[]):=C.cell 0;have cw:w.cell? gw=some (.func (.func 233) #[] #[pt gs,pt go,pt gt,pt gw]):=D.cell 0;simp only[nK]at ih|-;go_enter Tryz.func233,Tryz.ntmps233
  go_wp2_with fail
  go_loopw [13] (fun s wr=>∃i:Nat,i<=t.kids.length/\s=i/\wr=w) (fun s _=>t.kids.length-(intOf s).toNat)
  case atStart=>exact⟨0,aM _,rfl,rfl⟩
  case round=>
   obtain⟨i,R,rfl,rfl⟩:=hrel;by_cases o:i<t.kids.length
   .have r:=lJ i t.kids.length (by omega);obtain⟨k,E⟩:∃k,t.kids[i]? =some k:=⟨_,List.getElem?_eq_getElem o⟩;obtain⟨q,hq⟩:∃q,L[i]? =some q:=⟨_,List.getElem?_eq_getElem (by omega)⟩;obtain⟨a,m,-,-,-,hR⟩:=b.out.2 i q k hq E;have u:=f.out k (List.mem_of_getElem? E);obtain⟨S,rq,dq,vq,rfl,q1,G,q2⟩:=hR.node;obtain⟨j,cr,T,-,-,-⟩:=dL n (by omega);injection T with U V W;subst U;clear V W;have cq:wr.cell? (j,i)=pt S:=by
     have:=n.cells (g:=j) rfl i _ hq;have X:(j:Addr).add i=(j,i):=by cases i<;>simp[Addr.add]
     rwa[X]at this
    have v:=Da G;have x:=AL G;have h:=ih k u wr a m _ hR B C D;go_wp2_with (first|(go_at_call 241;go_loud (refine v.mono ?_;rintro e H ⟨rfl,rfl⟩))|(go_at_call 240;go_loud (refine x.mono ?_;rintro e H ⟨rfl,rfl⟩))|(go_at_call 233;go_loud (refine h.mono ?_;rintro e H ⟨rfl,rfl⟩)))
    go_roundw
    case rel=>exact⟨i+1,by omega,by go_num,trivial⟩
    case measure=>simp[intOf];omega
   .have r:=Di i t.kids.length (by omega);go_wp2_with fail
    exact cP (cL rfl _ _ _) rfl ⟨rfl,rfl⟩
end
section
attribute[local instance] dZ
structure BW(w:World)(B gs go gt gw:Nat)(ov:Value)(xs:List Value):Prop where
 s:aE w gs 260 #[.func (.func 239) #[] #[]]
 o:aE w go 258 #[ov]
 t:aE w gt 260 #[.func (.func 240) #[] #[]]
 k:aE w gw 154 #[.func (.func 233) #[] #[nK gs,nK go,nK gt,nK gw]]
 own:w.ownsRow B 155 1 ov xs.length xs
 hs:B<=gs
 ho:B<=go
 ht:B<=gt
 hw:B<=gw
def wG{g b:Nat}{t c:TypeId}{d a:Array Value}(h:aE w g t d)(e:aE w b c a)(f:t≠c):g≠b:=by
 rintro rfl;have:=h.symm.trans e;injection this with this;injection this with _ i;exact f i
def Db:∀(l m:List dO),dO.jF (l++m)=dO.jF l++dO.jF m
 |[],m=>by simp[dO.jF]
 |x::l,m=>by simp[dO.jF,Db l m]
def PY{l:List dO}{i:Nat}{k:dO}(h:l[i]? =some k):(dO.jF (l.take i)).length+1+k.desc.length<=(dO.jF l).length:=by
 have a:l=l.take i++k::l.drop (i+1):=by
  obtain⟨b,e⟩:=List.getElem?_eq_some_iff.1 h
  conv=>lhs;rw[<-fV i l]
  rw[bQ b,e]
 conv=>rhs;rw[a]
 rw[Db];simp only[dO.jF,aO,aW];omega
def aa9{F:Nat->Nat}{gs go gt gw B:Nat}(hF:∀b,0<F b->b<B):∀(d:Nat) (t:dO),PX d t->∀(w:World) (lo X:Nat) (p:Value) (ov:Value) (N:List Value),lH F w d lo X p t->X<=B->BW w B gs go gt gw ov N->N.length+t.desc.length<=5000->
 Calls tp 233 #[p,nK gs,nK go,nK gt,nK gw] w fun e w'=>e=rQ/\Below B w w'/\∃z K,BW w' B gs go gt gw z (N++K)/\fO F w X K t.desc
 |0,t,hd,_,_,_,_,_,_,_,_,_,_=>hd.elim
 |d+1,t,hd,w,lo,X,p,ov,N,hp,hhi,l,ip=>by
  have ih:=aa9 (gs:=gs) (go:=go) (gt:=gt) (gw:=gw) hF d;obtain⟨hkl,O⟩:=hd;obtain⟨i9,i8,jp,lw,mp⟩:=info_parts I4;obtain⟨g,rv,kd,kv,ps,rfl,h1,h2,hP,hrv,ho,n6,C⟩:=hp;obtain⟨A,c,rfl,hc⟩:=aV ho;have hpl:=C.1;rw[oB]at ip|-;replace O:=aU O;replace C:=aU C;have pm:w.cell? (g,72)=some (.slice A t.kids.length c):=hP.cell 72;have hsz:B<=w.heap.size:=by have:=l.o.lt;have:=l.ho;omega
  simp only[nK]at ih|-;go_enter Tryz.func233,Tryz.ntmps233
  go_wp2_with fail
  go_loopw [13] (fun s wr=>∃(i:Nat) (z:Value) (L K:List Value),i<=t.kids.length/\s=i/\Hid (L=N++K)/\BW wr B gs go gt gw z L/\Below B w wr/\Hid (fO F w X K (dO.jF (t.kids.take i)))) (fun s _=>t.kids.length-(intOf s).toNat)
  case atStart=>exact⟨0,ov,N,[],Nat.zero_le _,rfl,aU (by simp),l,Below.refl _ _,aU (fO.nil _ _ _)⟩
  case round=>
   clear l pm;obtain⟨i,z,L,K,hi1,rfl,hL,l,Z,hN⟩:=hrel;obtain⟨Ao,co,rfl,-⟩:=aV l.own;have hsr:=Z.size;by_cases qr:i<t.kids.length
   .have rg:=lJ i t.kids.length (by omega);obtain⟨k,Y⟩:∃k,t.kids[i]? =some k:=⟨_,List.getElem?_eq_getElem qr⟩;obtain⟨q,hq⟩:∃q,ps[i]? =some q:=⟨_,List.getElem?_eq_getElem (by omega)⟩;obtain⟨a,m,-,un,-,hR⟩:=C.out.2 i q k hq Y;have ut:=O.out k (List.mem_of_getElem? Y);have hcut:=PY Y;have P:=hN.out.1;have Q:∀(u:World),Below B w u->Kept F w F u:=fun u h b hb=>⟨rfl,h.block b (hF b hb)⟩;replace Q:=aU Q;have wl:=hR.node;obtain⟨y,rq,dq,vq,rfl,q1,hQ,q2⟩:=wl;obtain⟨R,cr,hA,-,-,-⟩:=dL ho (by omega);injection hA with e1 e2 e3;subst e1;clear e2 e3;have wn:R<B:=by have:=n6 R rfl;omega
    have cq:wr.cell? (R,i)=pt y:=by
     have:=ho.cells (g:=R) rfl i _ hq;have he:(R:Addr).add i=(R,i):=by cases i<;>simp[Addr.add]
     rw[he]at this;exact(Z.cell (p:=(R,i)) wn).trans this
    have cs:wr.cell? gs=some (.func (.func 239) #[] #[]):=l.s.cell 0;have ww:=l.o.cell 0;have am:=hQ.below Z (by omega);have a5:=PW am;have a9:L.length=N.length+(dO.jF (t.kids.take i)).length:=by rw[hL.out,List.length_append,P]
    have hLb:L.length+1+k.desc.length<=5000:=by omega
    replace a9:=aU a9;replace P:=aU P;replace Y:=aU Y;replace hq:=aU hq;have Do:=l.ho;go_wp2_with (first|(go_at_call 239;go_loud (refine a5.mono ?_;rintro e w1 ⟨rfl,rfl⟩))|(refine cR _ _ _ _ rfl ?_))
    refine⟨?_⟩;have D:=l.s.alloc (.cells #[pt y] 155);have E:=l.o.alloc (.cells #[pt y] 155);have G:=l.t.alloc (.cells #[pt y] 155);have H:=l.k.alloc (.cells #[pt y] 155);have n:=l.own.alloc (.cells #[pt y] 155);have em:=Z.alloc (by omega) (.cells #[pt y] 155);have eq:=df (aE.new wr 155 #[pt y]) (news:=[pt y]) rfl;refine bD _ rfl (.tmp 20) (.tmp 22) 258 rfl B 155 i9 (.pointer none) 1 8 Tryz.underlying258 i8 jp lw mp rfl (by decide) (.slice Ao L.length co) _ _ rfl n wr 1 1 [pt y] rfl rfl eq (by simp[Value.oneCell']) (by unfold maxLen;omega) (by omega) (by simp;omega) ?_;intro v8 S I r H1;have T:aE S gs 260 _:=(r.block _ D.lt (fun e=>dM n D (by decide) e.symm)).trans D;have f:aE S go 258 _:=(r.block _ E.lt (fun e=>dM n E (by decide) e.symm)).trans E;have U:aE S gt 260 _:=(r.block _ G.lt (fun e=>dM n G (by decide) e.symm)).trans G;have V:aE S gw 154 _:=(r.block _ H.lt (fun e=>dM n H (by decide) e.symm)).trans H;have ge:=dw em n r (Nat.le_refl _) (by simp;omega);obtain⟨A8,c8,rfl,-⟩:=aV I;have q1:=f.cell 0;have q2:=f.free 0;simp only[Act.put,zA,zB,zC];go_upto_region 5 with fail
    have v:=fp.setCell S go (.slice A8 (L.length+1) c8);have W:BW (S.setCell ⟨go,0,none⟩ (.slice A8 (L.length+1) c8)) B gs go gt gw (.slice A8 (L.length+1) c8) (L++[.pointer (some ⟨y,0,none⟩)]):=
     ⟨T.dA v (wG T f (by decide)),f.put 0 _,U.dA v (wG U f (by decide)),V.dA v (wG V f (by decide)),
      aZ (by simpa using I) (fun b hb _=>v.other b (fun e=>dM I f (by decide) (by rw[hb];exact dY some e))),l.hs,l.ho,l.ht,l.hw⟩
    have x:=ge.trans (v.below Do);clear D E G H n em eq r H1 T f U V ge I q1 v ww cs am a5 l;generalize S.setCell go (.slice A8 (L.length+1) c8)=w9 at*;have In:=hQ.below x (by omega);have UV:=AL In;have ct:w9.cell? gt=some (.func (.func 240) #[] #[]):=W.t.cell 0;have cw:w9.cell? gw=some (.func (.func 233) #[] #[pt gs,pt go,pt gt,pt gw]):=W.k.cell 0;have g7:=ih k ut w9 a m _ _ _ (hR.keep (Q.out _ x) (fun b b1 b2=>x.block b (by omega))) (by omega) W (by rw[aO,aW,eJ];omega);go_wp2_with (first|(go_at_call 240;go_loud (refine UV.mono ?_;rintro e w1 ⟨rfl,rfl⟩))|(go_at_call 233;go_loud (refine g7.mono ?_;rintro e w10 ⟨rfl,g8,ii,WF,io,M⟩)))
    go_roundw
    case rel=>
     have WP:=x.trans g8;refine⟨i+1,ii,_,K++(.pointer (some ⟨y,0,none⟩)::WF),by omega,by go_num,aU ?_,io,WP,aU ?_⟩
     .rw[hL.out];simp
     .rw[bJ,Y.out];show fO F w X _ (dO.jF (t.kids.take i++[k]));rw[AM];refine hN.out.app ((fO.one (hR.node.wide un)).app ⟨M.1,fun j p' t' e1 e2=>?_⟩);obtain⟨gz,rz,dz,vz,rfl,z1,z2,z3⟩:=M.2 j p' t' e1 e2;exact⟨gz,rz,dz,vz,rfl,by omega,(x.block gz (by omega)).symm.trans z2,z3.move (fun b hb=>⟨rfl,(x.block b (hF b hb)).symm⟩) (pi t')⟩
    case measure=>simp[intOf];omega
   .have rg:=Di i t.kids.length (by omega);have hie:i=t.kids.length:=by omega
    have J:=hN.out;rw[hie,List.take_length]at J;replace J:=aU J;go_wp2_with fail
    rw[hL.out]at l;exact cP (cL rfl _ _ _) rfl ⟨rfl,Z,_,K,l,J.out⟩
end
section
attribute[local instance] dZ
def Lv{t:dO}(s:PX d t){f:Nat}(k:lH F w d j f p t)(l:∀b,0<F b->b<w.heap.size)(u:f<=w.heap.size):
 Calls tp 146 #[p,.func (.func 147) #[] #[],.func (.func 148) #[] #[]] w fun e v=>e=.returned zn/\Below w w v:=by
 obtain⟨g,rfl,-,x⟩:=k.ptr;go_enter Tryz.func146,Tryz.ntmps146
 go_upto_region 4 with fail
 refine bM (fun Z=>aE Z w 260 #[.func (.func 147) #[] #[]]/\aE Z (w.heap.size+1) 260 #[.func (.func 148) #[] #[]]/\aE Z (w.heap.size+2) 258 #[zn]/\aE Z (w.heap.size+3) 154 #[.func (.func 233) #[] #[nK w.heap.size,nK (w.heap.size+2),nK (w.heap.size+1),nK (w.heap.size+3)]]/\Below w w Z) ?_ ?_
 .refine⟨?_,?_,?_,?_,?_⟩
  .exact(((aE.new _ _ _).alloc _).alloc _).alloc _
  .exact((aE.newAt _ _ _ (by simp)).alloc _).alloc _
  .exact(aE.newAt _ _ _ (by simp)).alloc _
  .exact aE.newAt _ _ _ (by simp)
  .exact((((Below.refl _ _).alloc (ae _) _).alloc (by simp) _).alloc (by simp;omega) _).alloc (by simp;omega) _
 rintro m ⟨n,o,q,h,a⟩;obtain⟨S,c⟩:=iG w.heap.size;rw[<-c]at n o q h a l u|-;replace c:=aU c;have i:=k.keep (fun b y=>⟨rfl,a.block b (l b y)⟩) (fun b z A=>a.block b (by omega));have B:m.cell? (S+3,0)=some (.func (.func 233) #[] #[pt S,pt (S+2),pt (S+1),pt (S+3)]):=h.cell 0;have co:=q.cell 0;have r:=X4 (gs:=S) (go:=S+2) (gt:=S+1) (gw:=S+3) d t s m j f _ i n o h;simp only[nK]at r;go_wp2_with (go_at_call 233;go_loud (refine r.mono ?_;rintro e C ⟨rfl,rfl⟩))
 go_ret
 rw[<-c.out];exact⟨rfl,a⟩
def I6{t:dO}(s:PX d t){f:Nat}(k:lH F w d j f p t)(l:∀b,0<F b->b<w.heap.size)(u:f<=w.heap.size):
 Calls tp 146 #[p,.func (.func 241) #[] #[],.func (.func 240) #[] #[]] w fun e v=>e=.returned zn/\Below w w v:=by
 obtain⟨g,rfl,-,x⟩:=k.ptr;go_enter Tryz.func146,Tryz.ntmps146
 go_upto_region 4 with fail
 refine bM (fun Z=>aE Z w 260 #[.func (.func 241) #[] #[]]/\aE Z (w.heap.size+1) 260 #[.func (.func 240) #[] #[]]/\aE Z (w.heap.size+2) 258 #[zn]/\aE Z (w.heap.size+3) 154 #[.func (.func 233) #[] #[nK w.heap.size,nK (w.heap.size+2),nK (w.heap.size+1),nK (w.heap.size+3)]]/\Below w w Z) ?_ ?_
 .refine⟨?_,?_,?_,?_,?_⟩
  .exact(((aE.new _ _ _).alloc _).alloc _).alloc _
  .exact((aE.newAt _ _ _ (by simp)).alloc _).alloc _
  .exact(aE.newAt _ _ _ (by simp)).alloc _
  .exact aE.newAt _ _ _ (by simp)
  .exact((((Below.refl _ _).alloc (ae _) _).alloc (by simp) _).alloc (by simp;omega) _).alloc (by simp;omega) _
 rintro m ⟨n,o,q,h,a⟩;obtain⟨S,c⟩:=iG w.heap.size;rw[<-c]at n o q h a l u|-;replace c:=aU c;have i:=k.keep (fun b y=>⟨rfl,a.block b (l b y)⟩) (fun b z A=>a.block b (by omega));have B:m.cell? (S+3,0)=some (.func (.func 233) #[] #[pt S,pt (S+2),pt (S+1),pt (S+3)]):=h.cell 0;have co:=q.cell 0;have r:=TJ (gs:=S) (go:=S+2) (gt:=S+1) (gw:=S+3) d t s m j f _ i n o h;simp only[nK]at r;go_wp2_with (go_at_call 233;go_loud (refine r.mono ?_;rintro e C ⟨rfl,rfl⟩))
 go_ret
 rw[<-c.out];exact⟨rfl,a⟩
def PZ{t:dO}(I:PX d t){x k:Nat}(y:lH F w d x k p t)(l:∀b,0<F b->b<w.heap.size)(z:k<=w.heap.size)(J:t.desc.length<=5000):
 Calls tp 146 #[p,.func (.func 239) #[] #[],.func (.func 240) #[] #[]] w fun e A=>∃m f,e=.returned m/\Below w w A/\A.ownsRow w 155 1 m f.length f/\fO F w k f t.desc:=by
 obtain⟨g,rfl,-,K⟩:=y.ptr;go_enter Tryz.func146,Tryz.ntmps146
 go_upto_region 4 with fail
 refine bM (fun Z=>aE Z w 260 #[.func (.func 239) #[] #[]]/\aE Z (w.heap.size+1) 260 #[.func (.func 240) #[] #[]]/\aE Z (w.heap.size+2) 258 #[zn]/\aE Z (w.heap.size+3) 154 #[.func (.func 233) #[] #[nK w.heap.size,nK (w.heap.size+2),nK (w.heap.size+1),nK (w.heap.size+3)]]/\Below w w Z) ?_ ?_
 .refine⟨?_,?_,?_,?_,?_⟩
  .exact(((aE.new _ _ _).alloc _).alloc _).alloc _
  .exact((aE.newAt _ _ _ (by simp)).alloc _).alloc _
  .exact(aE.newAt _ _ _ (by simp)).alloc _
  .exact aE.newAt _ _ _ (by simp)
  .exact((((Below.refl _ _).alloc (ae _) _).alloc (by simp) _).alloc (by simp;omega) _).alloc (by simp;omega) _
 rintro q ⟨B,C,D,r,c⟩;obtain⟨S,n⟩:=iG w.heap.size;rw[<-n]at B C D r c l z|-;replace n:=aU n;have s:=y.keep (fun b u=>⟨rfl,c.block b (l b u)⟩) (fun b b1 b2=>c.block b (by omega));have cw:q.cell? (S+3,0)=some (.func (.func 233) #[] #[pt S,pt (S+2),pt (S+1),pt (S+3)]):=r.cell 0;have L:BW q S S (S+2) (S+1) (S+3) zn []:=⟨B,D,C,r,dl _ _ _ _,ae _,by omega,by omega,by omega⟩;have E:=aa9 l d t I q x k _ _ _ s z L (by simpa using J);simp only[nK]at E;go_wp2_with (go_at_call 233;go_loud (refine E.mono ?_;rintro e M ⟨rfl,v,m,f,a,h⟩;have co:=a.o.cell 0;have N:M.cell? (S+2,0)=some m:=co;obtain⟨Ao,O,rfl,-⟩:=aV a.own))
 go_ret
 have j:=a.own;rw[dt]at j;rw[<-n.out];refine⟨_,f,rfl,c.trans v,j,h.1,fun i P G Q R=>?_⟩;obtain⟨H,T,U,V,rfl,W,X,Y⟩:=h.2 i P G Q R;exact⟨H,T,U,V,rfl,W,(c.block H (by omega)).symm.trans X,Y.move (fun b u=>⟨rfl,(c.block b (l b u)).symm⟩) (pi G)⟩
