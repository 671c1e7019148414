/- part of topCells.proved -/
import Derived.Test.YtkkiefcapbddkaaGreatDoorWb
set_option linter.all false
set_option maxRecDepth 1000000
set_option maxHeartbeats 0
noncomputable section
namespace Go.Abs
open Go.RowKit Go.Proofs YtkkiefcapbddkaaGreatDoor Mem ep Ord
variable{q:Bc}{B d j n s:Nat}{v:Value}{w:World}
def Bc.uH(b:Bc):b.arr[0]? =b.kind:=rfl
def Sw(a:q.kind=4)(w:World):Calls tp 122 #[.agg q.arr] w fun e b=>e=false/\Below w w b:=by
 have c:Below w w (w.alloc (.cells q.arr 66)):=(Below.refl _ _).alloc (ae _) _;have d:(w.alloc (.cells q.arr 66)).cell? w.heap.size=(4:Int):=by rw[(aE.new w 66 q.arr).cell 0,Bc.uH,a]
 go_enter Tryz.func122,Tryz.ntmps122
 go_wp2_with fail
 go_ret
 exact⟨rfl,c⟩
def O9(a:q.kind=5)(w:World):Calls tp 123 #[.agg q.arr] w fun e b=>e=false/\Below w w b:=by
 have c:Below w w (w.alloc (.cells q.arr 66)):=(Below.refl _ _).alloc (ae _) _;have d:(w.alloc (.cells q.arr 66)).cell? w.heap.size=z5:=by rw[(aE.new w 66 q.arr).cell 0,Bc.uH,a]
 go_enter Tryz.func123,Tryz.ntmps123
 go_wp2_with fail
 go_ret
 exact⟨rfl,c⟩
def KS(k:Int):Bool:=k==1||k==2||k==3
def tt(k:Int)(b:q.kind=k)(a:k=3\/k=4\/k=5\/k=7)(w:World):Calls tp 120 #[.agg q.arr] w fun e c=>e=.returned (.bool (KS k))/\Below w w c:=by
 have d:Below w w (w.alloc (.cells q.arr 66)):=(Below.refl _ _).alloc (ae _) _;have f:(w.alloc (.cells q.arr 66)).cell? w.heap.size=k:=by rw[(aE.new w 66 q.arr).cell 0,Bc.uH,b]
 rcases a with rfl|rfl|rfl|rfl;all_goals
  go_enter Tryz.func120,Tryz.ntmps120
  go_wp2_with fail
  go_ret
  exact⟨rfl,d⟩
def KT(hq:q.Ok)(c:q.kind=3)(w:World):Calls tp 124 #[.agg q.arr] w fun e d=>e=false/\Below w w d:=by
 have b:Below w w (w.alloc (.cells q.arr 66)):=(Below.refl _ _).alloc (ae _) _;have f:=aE.new w 66 q.arr;go_enter Tryz.func124,Tryz.ntmps124
 go_upto_region 1 with fail
 generalize w.alloc (.cells q.arr 66)=g at*;go_wp2_with (refine aX 66 rfl ?_)
 refine⟨eu rfl rfl rfl f Tryz.underlying66 rfl (bS hq) ?_⟩;go_wp2_with (go_at_call 120;go_loud (refine(tt 3 c (.inl rfl) g).mono ?_;rintro e h ⟨rfl,a⟩))
 go_ret
 exact⟨rfl,b.trans (a.mono b.size)⟩
def Bc.zT{b:Bc}(h:ik b.sty)(v:Value):b.arr.setIfInBounds 56 v=({b with kv:=v}:Bc).arr:=by
 have j:(b.sty.map dV).length=52:=by rw[aj,h.n]
 show b.cells.toArray.setIfInBounds 56 v=_;rw[fK]
 congr 1
 show(Value.int .i64 b.kind::.int .i64 b.node::.int .i64 b.ix::(b.sty.map dV++[.string b.text,b.kv])).set 56 v=_;rw[ef,ef,ef,iw _ _ (by omega),j];rfl
def Wf{e:TypeId}{z:Nat}{a:List Value}(h:w.ownsRow B e z v n a):v.oneCell'=true:=by
 obtain⟨A,c,rfl,-⟩:=aV h;rfl
def EU{kd p wk:Int}{f:FuncId}{pl oo:Bool}(hc:(kd=3/\wk=4/\pl=false/\oo=false/\f=122)\/(kd=4/\wk=5/\pl=false/\oo=false/\f=123)\/(kd=1/\wk=1/\pl=true/\oo=true/\f=124))(z:p=3\/p=4\/p=5\/p=7)(w:World)(b:Bc)(K:b.Ok)(a9:b.kind=kd)(a:List Bc)(r:∀q∈a,q.Ok)(C:∀q∈a,q.kind=p)(L:∀q∈a,∀w,Calls tp f #[.agg q.arr] w fun e M=>e=false/\Below w w M)
 (ho:∀k,k<a.length->(KS p&&decide (0<k))=false)(D:(KS p&&decide (0<a.length))=oo)(hn:a.length<=100)(A:Option Addr)(c:Nat)(N:b.kv=.slice A a.length c)(hR:dU w w A 57 Bc.cells a):
 Calls tp 52 #[.agg b.arr] w fun e M=>∃v',e=.returned (.agg ({b with kv:=v'}:Bc).arr)/\Below w w M/\M.ownsRow w 66 57 v' a.length (a.flatMap Bc.cells)/\(a=[]->v'=zn):=by
 have E:=fun wr t=>ET f (by rcases hc with h|h|h<;>simp[h.2.2.2.2]) wr b K a r hn A c N t wk pl L;replace E:=aU E;replace ho:=aU ho;replace D:=aU D;replace z:=aU z;clear L;rcases hc with⟨rfl,rfl,rfl,rfl,rfl⟩|⟨rfl,rfl,rfl,rfl,rfl⟩|⟨rfl,rfl,rfl,rfl,rfl⟩;all_goals
  replace r:=aU r;replace C:=aU C;have i:=Bc.l7 K.sty;rw[N]at i;have O:=Bc.uH b;rw[a9]at O;go_enter Tryz.func52,Tryz.ntmps52
  go_upto_region 2 with fail
  refine bM (fun Z=>aE Z w 66 b.arr/\aE Z (w.heap.size+1) 66 tI.arr/\Below w w Z) ⟨(aE.new _ _ _).alloc _,aE.newAt _ _ _ (by simp),((Below.refl _ _).alloc (ae _) _).alloc (by simp) _⟩ ?_;rintro w1 ⟨d,j,o⟩;obtain⟨B,u⟩:=iG w.heap.size;rw[<-u]at d j o hR|-;replace u:=aU u;have e0:=(d.cell 56).trans i;go_wp2_with fail
  go_loopw [3,9] (fun s3 s wr=>∃(k:Nat),k<=a.length/\s=k/\s3=.bool (KS p&&decide (0<k))/\aE wr B 66 b.arr/\aE wr (B+1) 66 tI.arr/\Below B w wr) (fun _ s _=>a.length-(intOf s).toNat)
  case atStart=>exact⟨0,aM _,rfl,by rw[show decide (0<0)=false from rfl,Bool.and_false],d,j,o⟩
  case round=>
   clear d j o e0;obtain⟨k,hk,rfl,rfl,d,j,o⟩:=hrel;by_cases P:k<a.length
   .have e1:=lJ k a.length (by omega);obtain⟨b0,Q,q,rfl,pm,HQ,hq⟩:=(hR.below o).at_ P;have R:=List.mem_of_getElem? HQ.out;have l:=r.out q R;have em:=C.out q R;have S:wr.rangeAt b0 (Q+k*57) q.arr.toList:=hq;replace hq:=trivial;rw[ho.out k P];have qr:=j.lt;go_wp2_with (refine aX 66 rfl ?_)
    refine⟨bY rfl 66 _ rfl b0 (Q+k*57) rfl q.arr _ S Tryz.underlying66 rfl (bS l) ?_⟩;go_wp2_with (refine aX 66 rfl ?_)
    refine⟨dK q.arr rfl rfl rfl rfl (aE.new _ _ _) (by rw[Bc.size l];rfl) (bS l) (Bc.all l) ?_⟩;intro w2 eq v;have ge:=(o.alloc (by omega) _).trans (v.below (by omega));have T:=(d.alloc _).dA v (by omega);have F:=(j.alloc _).dA v (by omega);have rg:B+2<=wr.heap.size:=by omega
    generalize wr.heap.size=gx at*;clear v d j o S;go_wp2_with (refine aX 66 rfl ?_)
    refine⟨eu rfl rfl rfl eq Tryz.underlying66 rfl (bS l) ?_⟩;have g7:=tt (q:=q) p em z.out w2;go_wp2_with (go_at_call 120;go_loud (refine g7.mono ?_;rintro e w3 ⟨rfl,G⟩))
    have g8:=T.below G T.lt;have ii:=F.below G F.lt;have io:=ge.trans (G.mono (by have:=F.lt;omega));go_roundw
    case rel=>exact⟨k+1,by omega,by go_num,by rw[show decide (0<k+1)=true from bf (by omega),Bool.and_true],g8,ii,io⟩
    case measure=>simp[intOf];omega
   .have U:k=a.length:=by omega
    rw[U,D.out,<-U];have ck:=(d.cell 0).trans O;go_wp2_with (refine aX 66 rfl ?_)
    refine⟨eu rfl rfl rfl d Tryz.underlying66 rfl (bS K) ?_⟩;have t:=(hR.below o).more (show B<=wr.heap.size from by have:=d.lt;omega);have V:=E.out wr t;go_upto_region 17 with(go_at_call 121;go_loud (refine V.mono ?_;rintro e w4 ⟨v',rfl,H,m,ip⟩;obtain⟨I,J,rfl,-⟩:=aV m;have x:=d.below H d.lt;have W:=j.below H j.lt;have X:=o.trans (H.mono (by have:=d.lt;omega));have cy:w4.cell? (B,56)=some (.slice A a.length c):=(x.cell 56).trans i;have un:=x.free 56))
    have y:=fp.setCell w4 (B,56) (.slice I a.length J);have Y:=x.put 56 (.slice I a.length J);rw[Bc.zT K.sty]at Y;have i8:=W.dA y (by simp);have am:=aZ m (w':=w4.setCell (B,56) (.slice I a.length J)) (fun g hg _=>y.other g (by have:=(m.lt g hg).1;have:=d.lt;simp;omega));have jp:=X.trans (y.below (B:=B) (by simp));have n:({b with kv:=(.slice I a.length J)}:Bc).Ok:=⟨K.sty,Wf m⟩;have lw:B<=wr.heap.size:=by have:=d.lt;omega
    have n6:=j.lt;generalize w4.setCell (B,56) (.slice I a.length J)=w5 at*;clear x W X m y V t o d j;go_wp2_with (refine aX 66 rfl ?_)
    refine⟨eu rfl rfl rfl Y Tryz.underlying66 rfl (bS n) ?_⟩;simp only[Act.put,zA,zB,zC];go_wp2_with (refine aX 66 rfl ?_)
    refine⟨dK ({b with kv:=(.slice I a.length J)}:Bc).arr rfl rfl rfl rfl i8 (by rw[Bc.size n,Bc.size kW]) (bS n) (Bc.all n) ?_⟩;intro w6 mp a5;go_wp2_with fail
    refine ej (lD 2 66 (B+1) rfl rfl mp _ Tryz.underlying66 rfl (bS n)) rfl ?_;rw[<-u.out];exact⟨.slice I a.length J,rfl,jp.trans (a5.below (by omega)),eW (aZ am (fun g hg _=>a5.other g (by have:=(am.lt g hg).1;omega))) lw,ip⟩
def Pa(w:World)(b:Bc)(k:b.Ok)(f:b.kind=3)(a:List Bc)(g:∀q∈a,q.Ok)(d:∀q∈a,q.kind=4)(l:a.length<=100)(A:Option Addr)(c:Nat)(h:b.kv=.slice A a.length c)(hR:dU w w A 57 Bc.cells a):
 Calls tp 52 #[.agg b.arr] w fun e j=>∃i,e=.returned (.agg ({b with kv:=i}:Bc).arr)/\Below w w j/\j.ownsRow w 66 57 i a.length (a.flatMap Bc.cells)/\(a=[]->i=zn):=
 EU (.inl ⟨rfl,rfl,rfl,rfl,rfl⟩) (by decide) w b k f a g d (fun q hq w=>Sw (d q hq) w) (fun _ _=>rfl) rfl l A c h hR
def Wg(w:World)(b:Bc)(k:b.Ok)(f:b.kind=4)(a:List Bc)(g:∀q∈a,q.Ok)(d:∀q∈a,q.kind=5)(l:a.length<=100)(A:Option Addr)(c:Nat)(h:b.kv=.slice A a.length c)(hR:dU w w A 57 Bc.cells a):
 Calls tp 52 #[.agg b.arr] w fun e j=>∃i,e=.returned (.agg ({b with kv:=i}:Bc).arr)/\Below w w j/\j.ownsRow w 66 57 i a.length (a.flatMap Bc.cells)/\(a=[]->i=zn):=
 EU (.inr (.inl ⟨rfl,rfl,rfl,rfl,rfl⟩)) (by decide) w b k f a g d (fun q hq w=>O9 (d q hq) w) (fun _ _=>rfl) rfl l A c h hR
def Sx(w:World)(b:Bc)(m:b.Ok)(g:b.kind=1)(a:List Bc)(d:∀q∈a,q.Ok)(f:∀q∈a,q.kind=3)(n:a.length<=100)(h:a.length=1)(A:Option Addr)(c:Nat)(i:b.kv=.slice A a.length c)(hR:dU w w A 57 Bc.cells a):
 Calls tp 52 #[.agg b.arr] w fun e l=>∃j,e=.returned (.agg ({b with kv:=j}:Bc).arr)/\Below w w l/\l.ownsRow w 66 57 j a.length (a.flatMap Bc.cells)/\(a=[]->j=zn):=
 EU (.inr (.inr ⟨rfl,rfl,rfl,rfl,rfl⟩)) (by decide) w b m g a d f (fun q hq w=>KT (d q hq) (f q hq) w) (fun k o=>by rw[show k=0 by omega];rfl) (by rw[h];rfl) n A c i hR
def Sy(w:World)(b:Bc)(t:b.Ok)(C:b.kind=5)(d:List Bc)(m:∀q∈d,q.Ok)(n:∀q∈d,q.kind=7)(Y:d.length<=100)(A:Option Addr)(c:Nat)(D:b.kv=.slice A d.length c)(hR:dU w w A 57 Bc.cells d):
 Calls tp 52 #[.agg b.arr] w fun e P=>e=.returned (.agg b.arr)/\Below w w P:=by
 replace m:=aU m;replace n:=aU n;have i:=Bc.l7 t.sty;rw[D]at i;have u:=Bc.uH b;rw[C]at u;go_enter Tryz.func52,Tryz.ntmps52
 go_upto_region 2 with fail
 refine bM (fun Z=>aE Z w 66 b.arr/\aE Z (w.heap.size+1) 66 tI.arr/\Below w w Z) ⟨(aE.new _ _ _).alloc _,aE.newAt _ _ _ (by simp),((Below.refl _ _).alloc (ae _) _).alloc (by simp) _⟩ ?_;rintro w1 ⟨f,j,l⟩;obtain⟨B,g⟩:=iG w.heap.size;rw[<-g]at f j l hR|-;replace g:=aU g;have Q:=(f.cell 56).trans i;go_wp2_with fail
 go_loopw [3,9] (fun R s wr=>∃(k:Nat),k<=d.length/\s=k/\R=.bool (KS 7&&decide (0<k))/\aE wr B 66 b.arr/\aE wr (B+1) 66 tI.arr/\Below B w wr) (fun _ s _=>d.length-(intOf s).toNat)
 case atStart=>exact⟨0,aM _,rfl,rfl,f,j,l⟩
 case round=>
  clear f j l Q;obtain⟨k,hk,rfl,rfl,f,j,l⟩:=hrel;by_cases E:k<d.length
  .have e1:=lJ k d.length (by omega);obtain⟨O,v,q,rfl,S,T,hq⟩:=(hR.below l).at_ E;have x:=List.mem_of_getElem? T.out;have a:=m.out q x;have F:=n.out q x;have y:wr.rangeAt O (v+k*57) q.arr.toList:=hq;replace hq:=trivial;have o:(KS 7&&decide (0<k))=false:=by rfl
   rw[o];have U:=j.lt;go_wp2_with (refine aX 66 rfl ?_)
   refine⟨bY rfl 66 _ rfl O (v+k*57) rfl q.arr _ y Tryz.underlying66 rfl (bS a) ?_⟩;go_wp2_with (refine aX 66 rfl ?_)
   refine⟨dK q.arr rfl rfl rfl rfl (aE.new _ _ _) (by rw[Bc.size a];rfl) (bS a) (Bc.all a) ?_⟩;intro V G h;have H:=(l.alloc (by omega) _).trans (h.below (by omega));have z:=(f.alloc _).dA h (by omega);have p:=(j.alloc _).dA h (by omega);have W:B+2<=wr.heap.size:=by omega
   generalize wr.heap.size=gx at*;clear h f j l y;go_wp2_with (refine aX 66 rfl ?_)
   refine⟨eu rfl rfl rfl G Tryz.underlying66 rfl (bS a) ?_⟩;have I:=tt (q:=q) 7 F (by decide) V;go_wp2_with (go_at_call 120;go_loud (refine I.mono ?_;rintro e w3 ⟨rfl,r⟩))
   have J:=z.below r z.lt;have K:=p.below r p.lt;have L:=H.trans (r.mono (by have:=p.lt;omega));go_roundw
   case rel=>exact⟨k+1,by omega,by go_num,by rw[show decide (0<k+1)=true from bf (by omega),Bool.and_true],J,K,L⟩
   case measure=>simp[intOf];omega
  .have X:k=d.length:=by omega
   have o:(KS 7&&decide (0<k))=false:=by rfl
   rw[o];have ck:=(f.cell 0).trans u;go_wp2_with (refine aX 66 rfl ?_)
   refine⟨eu rfl rfl rfl f Tryz.underlying66 rfl (bS t) ?_⟩;go_wp2_with (refine aX 66 rfl ?_)
   refine⟨dK b.arr rfl rfl rfl rfl j (by rw[Bc.size t,Bc.size kW]) (bS t) (Bc.all t) ?_⟩;intro w6 M N;go_wp2_with fail
   refine ej (lD 2 66 (B+1) rfl rfl M _ Tryz.underlying66 rfl (bS t)) rfl ?_;rw[<-g.out];exact⟨rfl,l.trans (N.below (by omega))⟩
def XU(L:List Nd):Int->List Nat->Prop
 |f,[]=>f= -1
 |f,k::r=>f=(k:Int)/\∃x,L[k]? =some x/\XU L x.nxt r
def Wh(n:Nat):Value:=n
def Sz{L:List Nd}:∀{a:List Nat} {f:Int},XU L f a->∀{i:Nat},i<a.length->∃k x,a[i]? =some k/\L[k]? =some x/\(i=0->f=k)/\XU L x.nxt (a.drop (i+1))
 |[],f,h,i,b=>by simp at b
 |k::r,f,h,i,b=>by
  obtain⟨rfl,x,d,c⟩:=h;cases i with
  |zero=>exact⟨k,x,rfl,d,fun _=>rfl,by simpa using c⟩
  |succ i=>
   obtain⟨e,g,j,l,n,m⟩:=Sz c (i:=i) (by simp at b;omega);exact⟨e,g,by simpa using j,l,fun h=>by omega,by simpa using m⟩
def KU:(Tryz.prog.info? 3).map (fun i=>(i.zero,i.size,i.bytes))=some (some (.int .i64 0),1,8):=by kernel_rfl
def Pb(L:List Nd)(A:Option Addr)(c:Nat)(w:World)(u:dU w w A 9 Nd.cells L){x:Nd}(hx:L[n]? =some x)(hl:L.length<=4000)(f:List Nat)(N:XU L x.fst f)(a9:f.length<L.length):
 Calls tp 51 #[.agg #[.slice A L.length c],n] w fun e w'=>∃v,e=.returned v/\Below w w w'/\w'.ownsRow w 3 1 v f.length (f.map Wh):=by
 have hn:=(List.getElem?_eq_some_iff.1 hx).1;obtain⟨d,a,rfl,O,P⟩:=nu u hx;have c5:=P 5 x.fst rfl;obtain⟨i0,hi,Q,R,S⟩:=info_parts KU;replace N:=aU N;replace u:=aU u;have h:aE (w.alloc (.cells #[(d,a,L.length,c)] 48)) w 48 #[(d,a,L.length,c)]:=aE.new w 48 _;have z:Below w w (w.alloc (.cells #[(d,a,L.length,c)] 48)):=(Below.refl _ _).alloc (ae _) _;go_enter Tryz.func51,Tryz.ntmps51
 go_upto_region 1 with fail
 generalize w.alloc (.cells #[(d,a,L.length,c)] 48)=w1 at*;obtain⟨B,j⟩:=iG w.heap.size;rw[<-j]at h z O u|-;replace j:=aU j;have T:=h.lt;have e0:=h.cell 0;go_upto_region 3 with(go_at_call 119;go_loud (refine(EO L.length (d,a) c w1 hn hl).mono ?_;rintro e w2 ⟨rfl,C⟩))
 have p:=h.below C T;have D:=z.trans (C.mono (by omega));have em:=p.lt;have e0:=p.cell 0;have f5:w2.cell? (d,a+n*9+5)=x.fst:=(D.cell O).trans c5;go_wp2_with fail
 go_loopw [5,6] (fun s5 s6 wr=>∃(i:Nat) (v:Value) (k:Int),i<=f.length/\s5=v/\s6=k/\XU L k (f.drop i)/\aE wr B 48 #[(d,a,L.length,c)]/\Below B w wr/\wr.ownsRow (B+1) 3 1 v i ((f.take i).map Wh)) (fun s _ _=>match s with|.slice _ i _=>f.length-i|_=>0)
 case atStart=>exact⟨0,_,_,Nat.zero_le _,rfl,rfl,by simpa using N.out,p,D,dl _ _ _ _⟩
 case round=>
  obtain⟨i,v,k,eq,rfl,rfl,q,M,hB,U⟩:=hrel;obtain⟨A1,c1,rfl,-⟩:=aV U;have E:=M.lt;have e0:=M.cell 0;by_cases ge:i<f.length
  .obtain⟨m,y,hm,hy,V,W⟩:=Sz q (i:=0) (by simp;omega);obtain rfl:=V rfl;have X:=(List.getElem?_eq_some_iff.1 hy).1;have c8:w.cell? (d,a+m*9+8)=y.nxt:=by
    obtain⟨b1,o1,h1,h2,h3⟩:=nu u.out hy;cases h1;exact h3 8 y.nxt rfl
   go_upto_region 7 with(go_at_call 119;go_loud (refine(EO L.length (d,a) c wr X hl).mono ?_;rintro e F ⟨rfl,b⟩;have g:=M.below b E;have e4:F.cell? B=(d,a,L.length,c):=g.cell 0))
   have r:=hB.trans (b.mono (by omega));have l:=ca U b;have g7:=g.lt;go_wp2_with (refine cR _ _ _ _ rfl ?_)
   have t:=l.alloc (.cells #[m] 3);have G:=g.alloc (.cells #[m] 3);have Y:=r.alloc (by omega) (.cells #[m] 3);have Z:=df (aE.new F 3 #[m]) (news:=[m]) rfl;refine⟨bD _ rfl (.tmp 34) (.tmp 36) 22 rfl (B+1) 3 i0 zQ 1 8 fD hi Q R S rfl (by decide) (.slice A1 i c1) _ _ rfl t F 1 1 [m] rfl rfl Z (by simp[Value.oneCell']) (by unfold maxLen;omega) (by omega) (by simp;omega) ?_⟩;intro v' w9 H I g8;have J:aE w9 B 48 #[(d,a,L.length,c)]:=gg G G.lt I (fun e=>by have:=(t.lt _ e.symm).1;omega);have o:=dw Y t I (by omega) (by simp;omega);have g9:w9.cell? (d,a+m*9+8)=y.nxt:=(o.cell O).trans c8;have e9:=J.cell 0;go_wp2_with fail
   go_roundw
   case rel=>
    have am:f[i]? =some m:=by simpa using hm
    refine⟨i+1,v',y.nxt,by omega,rfl,rfl,?_,J,o,?_⟩
    .have:f.drop (i+1)=List.drop (0+1) (List.drop i f):=by rw[ir]
     rw[this];exact W
    .rw[bJ,am,List.map_append];exact H
   case measure=>
    obtain⟨A2,c2,rfl,-⟩:=aV H;simp;omega
  .have K:i=f.length:=by omega
   subst K;have a5:k= -1:=by rw[gZ]at q;exact q
   subst a5;go_upto_region 8 with(go_at_call 119;go_loud (refine(Y5 L.length (d,a) c wr).mono ?_;rintro e F ⟨rfl,b⟩;have g:=M.below b E;have e4:F.cell? B=(d,a,L.length,c):=g.cell 0))
   have r:=hB.trans (b.mono (by omega));have l:=ca U b;go_wp2_with fail
   go_ret
   rw[bL]at l;rw[<-j.out];exact⟨_,rfl,r,eW l (by omega)⟩
inductive Bt|mk(kind node ix:Int)(sty:List D)(text:ByteArray)(kids:List Bt)
def Bt.kind:Bt->Int|.mk k _ _ _ _ _=>k
def Bt.node:Bt->Int|.mk _ n _ _ _ _=>n
def Bt.ix:Bt->Int|.mk _ _ i _ _ _=>i
def Bt.sty:Bt->List D|.mk _ _ _ s _ _=>s
def Bt.text:Bt->ByteArray|.mk _ _ _ _ t _=>t
def Bt.kids:Bt->List Bt|.mk _ _ _ _ _ k=>k
def ey(R:Nat->Nat->Bc->Bt->Prop):Nat->Nat->List Bc->List Bt->Prop
 |lo,b,[],[]=>lo<=b
 |lo,b,q::c,x::d=>∃a m,lo<=a/\a<=m/\m<=b/\R a m q x/\ey R m b c d
 |_,_,_,_=>False
def EV(w:World)(R:Nat->Nat->Bc->Bt->Prop)(e c:Nat)(b:Value)(d:List Bt):Prop:=
 ∃a m,ey R e m a d/\m<=c/\w.ownsRow m 66 57 b a.length (a.flatMap Bc.cells)/\(∀g,b.ownBlock=some g->g<c)/\(∀q∈a,q.Ok)/\(d=[]->b=zn)
def gM(w:World)(f:Bool):Nat->Nat->Nat->Bc->Bt->Prop
 |0,_,_,_,_=>False
 |d+1,a,b,q,t=>q.kind=t.kind/\q.node=t.node/\q.ix=(bif f then t.ix else 0)/\q.sty=t.sty/\q.text=t.text/\q.Ok/\EV w (gM w f d) a b q.kv t.kids
def ey.mono{R E:Nat->Nat->Bc->Bt->Prop}{A:Nat}(hR:∀lo j q x,j<=A->R lo j q x->E lo j q x):∀{lo j:Nat} {C:List Bc} {D:List Bt},j<=A->ey R lo j C D->ey E lo j C D
 |lo,j,[],[],B,h=>h
 |lo,j,q::C,x::D,B,h=>by
  obtain⟨a,m,I,J,H,L,M⟩:=h;exact⟨a,m,I,J,H,hR _ _ _ _ (ba H B) L,ey.mono hR B M⟩
 |lo,j,[],x::D,B,h=>h.elim
 |lo,j,q::C,[],B,h=>h.elim
def ey.le{R:Nat->Nat->Bc->Bt->Prop}:∀{lo j:Nat} {A:List Bc} {B:List Bt},ey R lo j A B->lo<=j
 |lo,j,[],[],h=>h
 |lo,j,q::A,x::B,h=>by
  obtain⟨a,m,C,D,H,I,E⟩:=h;exact ba C (Nat.le_trans D E.le)
 |lo,j,[],x::B,h=>h.elim
 |lo,j,q::A,[],h=>h.elim
def ey.len{R:Nat->Nat->Bc->Bt->Prop}:∀{lo j:Nat} {A:List Bc} {B:List Bt},ey R lo j A B->A.length=B.length
 |lo,j,[],[],h=>rfl
 |lo,j,q::A,x::B,h=>by
  obtain⟨a,m,D,E,H,I,C⟩:=h;simp[C.len]
 |lo,j,[],x::B,h=>h.elim
 |lo,j,q::A,[],h=>h.elim
def ey.snoc{R:Nat->Nat->Bc->Bt->Prop}{q:Bc}{x:Bt}:∀{lo m j:Nat} {A:List Bc} {B:List Bt},ey R lo m A B->m<=j->R m j q x->ey R lo j (A++[q]) (B++[x])
 |lo,m,j,[],[],h,C,D=>by
  exact⟨m,j,h,C,Nat.le_refl _,D,Nat.le_refl j⟩
 |lo,m,j,N::A,O::B,h,C,D=>by
  obtain⟨a,E,H,I,J,L,M⟩:=h;exact⟨a,E,H,I,Nat.le_trans J C,L,M.snoc C D⟩
 |lo,m,j,[],x::B,h,_,_=>h.elim
 |lo,m,j,q::A,[],h,_,_=>h.elim
def EV.keep{w':World}{R B:Nat->Nat->Bc->Bt->Prop}{A:Nat}{C:Value}{D:List Bt}(hR:∀j h q x,h<=A->R j h q x->B j h q x)(I:Below A w w')(h:EV w R j A C D):EV w' B j A C D:=by
 obtain⟨J,m,L,E,M,H,N⟩:=h;exact⟨J,m,L.mono hR E,E,aZ M (fun g O P=>I.block g (H g O)),H,N⟩
def gM.keep{w w':World}{f:Bool}:∀{d j A:Nat} {q:Bc} {t:Bt},Below A w w'->gM w f d j A q t->gM w' f d j A q t
 |0,_,_,_,_,_,h=>h.elim
 |d+1,j,A,q,t,B,h=>by
  obtain⟨C,D,E,H,I,J,L⟩:=h;exact⟨C,D,E,H,I,J,L.keep (fun j h q x M N=>N.keep (B.mono M)) B⟩
structure zU(w:World)(B gt gl gm:Nat)(L:List Nd)(SL:List (List D)):Prop where
 t:∃A c,w.cell? gt=some (.slice A L.length c)/\dU w B A 9 Nd.cells L
 l:∃A c,w.cell? gl=some (.slice A SL.length c)/\dU w B A 52 (List.map dV) SL
 m:w.cell? gm=some (.func (.func 49) #[] #[pt gt,pt gl,pt gm])
 gt:gt<B
 gl:gl<B
 gm:gm<B
def zU.keep{w':World}{gt C E:Nat}{L:List Nd}{H:List (List D)}(h:zU w B gt C E L H)(j:Below B w w'):zU w' B gt C E L H:=by
 obtain⟨⟨A,c,N,O⟩,⟨P,Q,R,S⟩,T,I,J,M⟩:=h;exact⟨⟨A,c,(j.cell I).trans N,O.below j⟩,⟨P,Q,(j.cell J).trans R,S.below j⟩,(j.cell M).trans T,I,J,M⟩
def tv{α:Type}{sz:Nat}{c:α->List Value}{A:Option Addr}{L:List α}(f:dU w B A sz c L){x:α}(d:L[n]? =some x):
 ∃b a,A=some ⟨b,a,none⟩/\b<B/\w.rangeAt b (a+n*sz) (c x):=by
 obtain⟨b,a,e,g,h⟩:=f (by rintro rfl;simp at d);exact⟨b,a,e,g,fun j v i=>h n x d j v i⟩
def zV(x:Nd):x.arr.all (·.oneCell')=true:=by simp[Nd.arr,Nd.cells,Value.oneCell']
def uI(x:Nd):(Tryz.prog.info? 121).map (·.size)=some x.arr.size:=by kernel_rfl
def o6{P:Program}{fn:Func}{a:Array Value}(s c b r:Nat)(h:fn.results=#[.cell s c,.tmp r])(i:a.getD s undef=pt b){t:TypeId}{e:Array Value}(j:aE w b t e)
 (d:TypeDesc)(k:P.underlying c=some d)(l:d.isRow=true)(m:(P.info? c).map (·.size)=some e.size)(v:Value)(n:a.getD r undef=v):(results fn a).run P w=.ok (.tuple #[.agg e,v]) w:=by
 have o:=run_loadVar_mid (P:=P) w b 0 c e.toList d j.range k l (by simpa using m);have f:a[s]?.getD undef=pt b:=by simpa using i
 have g:a[r]?.getD undef=v:=by simpa using n
 have p:(asAddr (pt b)).run P w=.ok b w:=rfl;simp[results,h,f,g,Sem.run_bind,o,p]
def Bc.SA{b:Bc}(h:ik b.sty)(v:ByteArray):b.arr.setIfInBounds 55 v=({b with text:=v}:Bc).arr:=by
 have j:(b.sty.map dV).length=52:=by rw[aj,h.n]
 show b.cells.toArray.setIfInBounds 55 v=_;rw[fK]
 congr 1
 show(Value.int .i64 b.kind::.int .i64 b.node::.int .i64 b.ix::(b.sty.map dV++[.string b.text,b.kv])).set 55 (.string v)=_;rw[ef,ef,ef,iw _ _ (by omega),j];rfl
def Pc(w:World){gt gl gm:Nat}{L:List Nd}{SL:List (List D)}(hE:zU w B gt gl gm L SL)(am:B<=w.heap.size){x:Nd}(hx:L[n]? =some x)(a5:x.kind=2){d c:Int}(hs:SL[n]? =some (bh d c))(above y ix:Int):
 Calls tp 49 #[n,above,y,pt gt,pt gl,pt gm] w
  fun e w'=>∃q,e=tQ #[.agg q.arr,true]/\Below w w w'/\gM w' false 1 w w' q (.mk 7 n ix (bh d c) x.text []):=by
 have a9:=hE;obtain⟨⟨At,ct,em,eq⟩,⟨As,cs,ge,g7⟩,un,hgt,ut,wl⟩:=a9;obtain⟨bt,ot,rfl,wn,g8⟩:=nu eq hx;obtain⟨bs,os,rfl,ww,ii⟩:=tv g7 hs;have Do:=(List.getElem?_eq_some_iff.1 hx).1;have H1:=(List.getElem?_eq_some_iff.1 hs).1;have p1:=dG (bu d c);go_enter Tryz.func49,Tryz.ntmps49
 go_upto_region 1 with fail
 refine bM (fun Z=>aE Z w 66 tI.arr/\Below w w Z) ⟨aE.new _ _ _,(Below.refl _ _).alloc (ae _) _⟩ ?_;rintro w1 ⟨z,k⟩;obtain⟨W,l⟩:=iG w.heap.size;rw[<-l]at z k am|-;replace l:=aU l;have A:=z.lt;have e1:=(k.cell (p:=gt) (by simp;omega)).trans em;have r1:w1.rangeAt bt (ot+n*9) x.arr.toList:=fun j u hu=>(k.cell (p:=(bt,ot+n*9+j)) (by simp;omega)).trans (g8 j u hu);go_wp2_with (refine aX 121 rfl ?_)
 refine⟨bY rfl 121 _ rfl bt (ot+n*9) rfl x.arr _ r1 Tryz.underlying121 rfl (uI x) ?_⟩;go_wp2_with (refine aX 121 rfl ?_)
 refine⟨dK x.arr rfl rfl rfl rfl (aE.new _ _ _) rfl (uI x) (zV x) ?_⟩;intro w2 C E;have F:=(k.alloc (Nat.le_of_lt A) _).trans (E.below (Nat.le_of_lt A));have io:=(z.alloc _).dA E (by omega);obtain⟨gx,G⟩:∃g,g=w1.heap.size:=⟨_,rfl⟩;rw[<-G]at C E A|-;replace G:=aU G;have ip:=C.lt;have rg:=(F.cell (p:=gl) (by simp;omega)).trans ge;have r2:w2.rangeAt bs (os+n*52) (db (bh d c)).toList:=fun j u hu=>(F.cell (p:=(bs,os+n*52+j)) (by simp;omega)).trans (ii j u (by simpa[db]using hu));go_wp2_with (first|refine dg 63 _ rfl rfl ?_|refine dm 66 _ _ rfl rfl ?_)
 refine⟨bY rfl 63 _ rfl bs (os+n*52) rfl (db (bh d c)) _ r2 Tryz.underlying63 rfl p1 ?_⟩;refine iK rfl (.agg (⟨0,(n:Int),0,bh d c,eQ,zn⟩:Bc).arr) w2 (by kernel_rfl) ?_;obtain⟨b,M⟩:=iG (⟨0,(n:Int),0,bh d c,eQ,zn⟩:Bc);rw[<-M];have a:b.Ok:=by rw[M];exact⟨bu d c,rfl⟩
 replace M:=aU M;go_wp2_with (first|refine dg 63 _ rfl rfl ?_|refine dm 66 _ _ rfl rfl ?_)
 refine⟨dK b.arr rfl rfl rfl rfl (aE.new _ _ _) (by rw[Bc.size a];rfl) (bS a) (Bc.all a) ?_⟩;intro w3 H m;have N:=(F.alloc (by omega) _).trans (m.below (by omega));have O:=(io.alloc _).dA m (by omega);have o:=(C.alloc _).dA m (by omega);obtain⟨v,I⟩:∃g,g=w2.heap.size:=⟨_,rfl⟩;rw[<-I]at H m ip|-;replace I:=aU I;have e3:w3.cell? gx=zZ:=by rw[o.cell 0];show some (Value.int .i64 x.kind)=_;rw[a5]
 go_upto_region 4 with fail
 refine a8 ?_;refine dW (S:=fun Z:World=>Z.cell? (gx,2)=x.text) 999 [1,1,1,0,1,0] (by kernel_rfl) (fun _ _ _ _ _ h=>h) (o.drew.cell 2) (fun In=>?_);simp only[osq,fL,aF,ap];iterate 3 (apply cU;rfl;(intro w i8;go_simp;try(with_reducible rfl));simp only[Act.put,zA,zB,zC])
 refine cC rfl rfl (fun K P=>?_);have Q:=o.drew;have i:=H.drew;have R:=O.drew;have T:=N.trans (Below.refl W w3).drew;generalize w3.drew=wd at*;have q1:=i.cell 0;have q2:=i.free 0;go_simp
 have r:=fp.setCell wd v (7:Int);have s:aE _ v 66 ({b with kind:=7}:Bc).arr:=i.put 0 (7:Int);have J:=Q.dA r (by simp;omega);have U:=R.dA r (by simp;omega);have V:=T.trans (r.below (show W<=v by omega));refine P.out _ _ (J.cell 2) (fun _=>?_);clear P K;(apply cU;rfl;(intro w i8;go_simp;try(with_reducible rfl));simp only[Act.put,zA,zB,zC]);refine cC rfl rfl (fun K P=>?_);generalize wd.setCell v (7:Int)=w4 at*;have q1:w4.cell? (v,55)=b.text:=by rw[s.cell 55];exact Bc.Wd (b:={b with kind:=7}) a.sty
 have q2:=s.free 55;go_simp
 have t:=fp.setCell w4 (v,55) x.text;have X:=s.put 55 x.text;rw[Bc.SA (b:={b with kind:=7}) a.sty]at X;have jp:=J.dA t (by simp;omega);have lw:=U.dA t (by simp;omega);have mp:=V.trans (t.below (show W<=v by omega));refine P.out _ _ (jp.cell 2) (fun _=>?_);clear P K;refine fA (a7 ?_);generalize w4.setCell (v,55) x.text=w5 at*;clear s J U V r t H o O N q1 q2 e3;have f:({b with kind:=7,text:=x.text}:Bc).Ok:=⟨a.sty,a.one⟩;go_wp2_with (refine aX 66 rfl ?_)
 refine⟨eu rfl rfl rfl X Tryz.underlying66 rfl (bS f) ?_⟩;go_wp2_with (refine aX 66 rfl ?_)
 refine⟨dK ({b with kind:=7,text:=x.text}:Bc).arr rfl rfl rfl rfl lw (by rw[Bc.size f,Bc.size kW]) (bS f) (Bc.all f) ?_⟩;intro w6 Y n6;go_wp2_with fail
 refine ej (o6 9 66 W 10 rfl rfl Y _ Tryz.underlying66 rfl (bS f) _ rfl) rfl ?_;have pm:=mp.trans (n6.below (Nat.le_refl _));have qr:=M.out;subst qr;rw[<-l.out];refine⟨_,rfl,pm,rfl,rfl,rfl,rfl,rfl,f,[],W,Nat.le_refl _,?_,dl _ _ _ _,(fun g hg=>by cases hg),(fun q hq=>by cases hq),fun _=>rfl⟩;have:=Y.lt;omega
def jc.bk:jc->Int|.root=>1|.tab=>3|.tr=>4|.td=>5
def jc.ab:jc->Int|.root=>0|.tab=>1|.tr=>3|.td=>4
def rV(a:jc)(w:World):Calls tp 50 #[.agg (db a.sty),a.ab] w fun e f=>e=a.bk/\Below w w f:=by
 have g:Below w w (w.alloc (.cells (db a.sty) 63)):=(Below.refl _ _).alloc (ae _) _;have b:=(aE.new w 63 (db a.sty)).cell 0;have c:=(aE.new w 63 (db a.sty)).cell 1;have d:=(aE.new w 63 (db a.sty)).cell 2;cases a;all_goals
  first
   |replace b:=b.trans (show(db jc.root.sty)[0]? =zJ from rfl)
    replace c:=c.trans (show(db jc.root.sty)[1]? =zQ from rfl);replace d:=d.trans (show(db jc.root.sty)[2]? =zQ from rfl)
   |replace b:=b.trans (show(db jc.tab.sty)[0]? =(4:Int)from rfl)
    replace c:=c.trans (show(db jc.tab.sty)[1]? =zQ from rfl);replace d:=d.trans (show(db jc.tab.sty)[2]? =zQ from rfl)
   |replace b:=b.trans (show(db jc.tr.sty)[0]? =z5 from rfl)
    replace c:=c.trans (show(db jc.tr.sty)[1]? =zQ from rfl);replace d:=d.trans (show(db jc.tr.sty)[2]? =zQ from rfl)
   |replace b:=b.trans (show(db jc.td.sty)[0]? =(6:Int)from rfl)
    replace c:=c.trans (show(db jc.td.sty)[1]? =zQ from rfl);replace d:=d.trans (show(db jc.td.sty)[2]? =zQ from rfl)
  go_enter Tryz.func50,Tryz.ntmps50
  go_upto_region 1 with fail
  generalize w.alloc (.cells (db _) 63)=h at*;go_wp2_with fail
  go_ret
  exact⟨rfl,g⟩
def gM.same{w w':World}{f:Bool}:∀{d B C:Nat} {q:Bc} {t:Bt},(∀b,B<=b->b<C->w'.heap[b]? =w.heap[b]?)->gM w f d B C q t->gM w' f d B C q t
 |0,_,_,_,_,_,h=>h.elim
 |d+1,B,C,q,t,D,h=>by
  obtain⟨E,H,N,O,P,Q,A,m,I,R,J,L,S⟩:=h;refine⟨E,H,N,O,P,Q,A,m,?_,R,aZ J (fun g M hl=>D g (Nat.le_trans I.le (J.lt g M).1) (L g M)),L,S⟩;have go:∀{a:Nat} {A:List Bc} {j:List Bt},B<=a->ey (gM w f d) a m A j->ey (gM w' f d) a m A j:=by
   intro a A;induction A generalizing a with
   |nil=>intro j _ h;cases j with
    |nil=>exact h
    |cons x j=>exact h.elim
   |cons q A ih=>intro j ha h;cases j with
    |nil=>exact h.elim
    |cons x j=>
     obtain⟨T,V,W,X,Y,Z,i4⟩:=h;exact⟨T,V,W,X,Y,Z.same (fun b E H=>D b (by omega) (by omega)),ih (by omega) i4⟩
  exact go (Nat.le_refl _) I
def ey.imp{R C:Nat->Nat->Bc->Bt->Prop}:∀{lo j:Nat} {A:List Bc} {B:List Bt},(∀a m q x,lo<=a->m<=j->R a m q x->C a m q x)->ey R lo j A B->ey C lo j A B
 |lo,j,[],[],hR,h=>h
 |lo,j,q::A,x::B,hR,h=>by
  obtain⟨a,m,D,H,E,I,J⟩:=h;exact⟨a,m,D,H,E,hR _ _ _ _ D E I,J.imp (fun L M N O S P Q=>hR L M N O (by omega) P Q)⟩
 |lo,j,[],x::B,_,h=>h.elim
 |lo,j,q::A,[],_,h=>h.elim
def ey.all{R:Nat->Nat->Bc->Bt->Prop}{P:Bc->Prop}:∀{lo A:Nat} {B:List Bc} {C:List Bt},(∀a m q x,x∈C->R a m q x->P q)->ey R lo A B C->∀q∈B,P q
 |lo,A,[],[],hR,h=>fun q hq=>by cases hq
 |lo,A,q::B,x::C,hR,h=>fun D j=>by
  obtain⟨a,m,J,L,M,E,H⟩:=h;rcases aw.1 j with rfl|j
  .exact hR _ _ _ _ (List.mem_cons_self ..) E
  .exact H.all (fun a m q x I=>hR a m q x (List.mem_cons_of_mem _ I)) D j
 |lo,A,[],x::C,_,h=>h.elim
 |lo,A,q::B,[],_,h=>h.elim
def gM.ok{f:Bool}{A:Nat}{t:Bt}(h:gM w f d j A q t):q.Ok:=by
 cases d with
 |zero=>exact h.elim
 |succ d=>exact h.2.2.2.2.2.1
def ey.up{R:Nat->Nat->Bc->Bt->Prop}:∀{lo m j:Nat} {A:List Bc} {B:List Bt},ey R lo m A B->m<=j->ey R lo j A B
 |lo,m,j,[],[],h,C=>Nat.le_trans h C
 |lo,m,j,q::A,x::B,h,C=>by
  obtain⟨a,D,E,H,I,J,L⟩:=h;exact⟨a,D,E,H,Nat.le_trans I C,J,L.up C⟩
 |lo,m,j,[],x::B,h,_=>h.elim
 |lo,m,j,q::A,[],h,_=>h.elim
def gM.sty{w:World}{f:Bool}{d j A:Nat}{q:Bc}{t:Bt}(h:gM w f d j A q t):q.sty=t.sty:=by
 cases d with
 |zero=>exact h.elim
 |succ d=>exact h.2.2.2.1
def gM.kind{w:World}{f:Bool}{d j A:Nat}{q:Bc}{t:Bt}(h:gM w f d j A q t):q.kind=t.kind:=by
 cases d with
 |zero=>exact h.elim
 |succ d=>exact h.1
def gM.kv{w:World}{f:Bool}{d j B:Nat}{q:Bc}{t:Bt}(h:gM w f d j B q t):∃A n c,q.kv=.slice A n c:=by
 cases d with
 |zero=>exact h.elim
 |succ d=>
  obtain⟨E,m,H,I,C,J,L⟩:=h.2.2.2.2.2.2;obtain⟨A,c,D,-⟩:=aV C;exact⟨A,_,c,D⟩
def ky{a:List Bc}(hq:∀q∈a,q.Ok):(a.flatMap Bc.cells).length=a.length*57:=by
 induction a with
 |nil=>rfl
 |cons q a ih=>
  rw[bR,aO,ih (fun x b=>hq x (List.mem_cons_of_mem _ b)),Bc.len (hq q (List.mem_cons_self ..)).sty,aW];omega
def sI{a:List Bc}(hq:∀q∈a,q.Ok){i:Nat}(b:a[i]? =some q)(c:q.cells[j]? =some v):(a.flatMap Bc.cells)[i*57+j]? =some v:=by
 induction a generalizing i with
 |nil=>simp at b
 |cons y a ih=>
  have d:=Bc.len (hq y (List.mem_cons_self ..)).sty;cases i with
  |zero=>
   have e:y=q:=by simpa using b
   subst e;have f:=(List.getElem?_eq_some_iff.1 c).1;rw[bR,ez,bc,an f];exact c
  |succ i=>
   rw[bR,ay (by omega),d,show(i+1)*57+j-57=i*57+j by omega];exact ih (fun x g=>hq x (List.mem_cons_of_mem _ g)) (by simpa using b)
def SB{c:Nat}{e:TypeId}{A:Option Addr}{f:List Bc}(hq:∀q∈f,q.Ok)(h:w.ownsRow d e 57 (.slice A n c) n (f.flatMap Bc.cells)):dU w w A 57 Bc.cells f:=fun t=>by
 have k:=h.1;rw[ky hq]at k;have r:0<f.length:=by
  rcases cz f.length with h0|h0
  .exact absurd (aD h0) t
  .exact h0
 rcases h.2 with⟨_,C⟩|⟨g,cap,l,m,D,o,u,s,y,a⟩
 .omega
 .injection m with z E F;subst z;refine⟨g,0,rfl,?_,fun i x B j v m=>?_⟩
  .rcases cD g w with b|p
   .exact b
   .rw[cV p]at o;cases o
  .have hq:=sI hq B m;rw[<-a]at hq;rw[bc,jG w g _ l e (0,0) o];have b:=(List.getElem?_eq_some_iff.1 hq).1;rw[aN]at b;rw[bU (by omega)]at hq;simpa using hq
def ey.down{R:Nat->Nat->Bc->Bt->Prop}{C D:Nat}{A:List Bc}{B:List Bt}(h:ey R C D A B)(E:j<=C):ey R j D A B:=by
 match A,B,h with
 |[],[],h=>exact ba E h
 |q::A,x::B,h=>
  obtain⟨a,m,H,I,J,L,M⟩:=h;exact⟨a,m,Nat.le_trans E H,I,J,L,M⟩
 |[],x::B,h=>exact h.elim
 |q::A,[],h=>exact h.elim
def ey.flat{R C:Nat->Nat->Bc->Bt->Prop}(S:Nat):∀{lo j:Nat} {B:List Bc} {A:List Bt},(∀a m q x,x∈A->R a m q x->C S S q x)->ey R lo j B A->ey C S S B A
 |lo,j,[],[],hR,h=>Nat.le_refl S
 |lo,j,q::B,x::A,hR,h=>by
  obtain⟨a,m,I,J,L,D,E⟩:=h;exact⟨S,S,Nat.le_refl S,Nat.le_refl S,Nat.le_refl S,hR a m q x (List.mem_cons_self ..) D,E.flat S (fun a m q x H=>hR a m q x (List.mem_cons_of_mem _ H))⟩
 |lo,j,[],x::A,_,h=>h.elim
 |lo,j,q::B,[],_,h=>h.elim
def SC{d:World}{f S m b:Nat}{i:List Bc}{j:List Bt}{l:Value}(o:ey (fun a m q x=>gM w false f a m q x/\S<=a/\∀g,v.ownBlock=some g->g<a\/m<=g) S m i j)(p:m<=b)
 (r:∀k,S<=k->k<b->(∀g,v.ownBlock=some g->g≠k)->d.heap[k]? =w.heap[k]?)(s:∀g,l.ownBlock=some g->v.ownBlock=some g\/b<=g):
 ey (fun a m q x=>gM d false f a m q x/\S<=a/\∀g,l.ownBlock=some g->g<a\/m<=g) S b i j:=by
 refine(o.up p).imp (fun a z A x B C t=>?_);obtain⟨u,y,n⟩:=t;refine⟨u.same (fun k D E=>r k (by omega) (by omega) (fun g c e=>?_)),y,fun g c=>?_⟩
 .rcases n g c with h|h<;>omega
 .rcases s g c with h|h
  .exact n g h
  .right;omega
def gM.leaf{f:Bool}{D E:Nat}{t:Bt}(h:gM w f d D E q t)(j:t.kids=[])(H:World)(a:Nat):gM H f d a a q t:=by
 cases d with
 |zero=>exact h.elim
 |succ d=>
  obtain⟨I,J,L,M,N,O,B,m,C,R,S,T,V,P⟩:=h;rw[j]at C;have A:=P j
  match B,C with
  |[],_=>
   refine⟨I,J,L,M,N,O,[],a,?_,ae a,?_,?_,?_,fun _=>A⟩
   .rw[j];exact ae a
   .rw[A];exact dl _ _ _ _
   .rw[A];intro g Q;cases Q
   .intro q hq;cases hq
  |W::B,h=>exact h.elim
def jz(s:Nat):List Pt->List Nat
 |[]=>[]
 |k::r=>s::jz (s+sz k) r
mutual
def qO(L:List Nd)(n:Nat):Pt->Prop
 |.mk name text a=>if name.toList.isEmpty then∃x,L[n]? =some x/\x.kind=2/\x.text=text
  else(∃x,L[n]? =some x/\x.kind=1/\x.name=name/\XU L x.fst (jz (n+1) a))/\nw L (n+1) a
def nw(L:List Nd)(s:Nat):List Pt->Prop
 |[]=>True
 |k::r=>qO L s k/\nw L (s+sz k) r
end
mutual
def CD(L:List Nd):∀(p:Pt) (n:Nat) (d b e:Int) (a:List Nd),L.drop n=flat n d b e p++a->qO L n p
 |.mk name text c,n,d,b,e,a,f=>by
  unfold flat at f;unfold qO;by_cases h:name.toList.isEmpty=true
  .rw[aS h]at f|-;obtain⟨g,l,i⟩:=jr f;exact⟨_,g,rfl,rfl⟩
  .rw[aI h]at f|-;obtain⟨g,l,i⟩:=jr f;have j:=zW L c (n+1) n (-1) a i;refine⟨⟨_,g,rfl,rfl,?_⟩,j.1⟩;cases c with
   |nil=>exact rfl
   |cons k r=>exact j.2
def zW(L:List Nd):∀(l:List Pt) (s:Nat) (c a:Int) (b:List Nd),L.drop s=fo s c a l++b->nw L s l/\XU L (match l with|[]=> -1|_::_=>(s:Int)) (jz s l)
 |[],s,c,a,b,d=>⟨by unfold nw;trivial,rfl⟩
 |k::r,s,c,a,b,d=>by
  unfold fo at d;rw[bC]at d;have g:=CD L k s c a _ _ d;have e:=uw d;rw[ep.dT]at e;obtain⟨h,f⟩:=zW L r (s+sz k) c s b e;obtain⟨x,m,i⟩:=rS s c a 0 k;rw[i]at d;obtain⟨j,n,_⟩:=jr d;refine⟨by unfold nw;exact⟨g,h⟩,?_⟩;unfold jz;refine⟨rfl,_,j,?_⟩;cases r with
  |nil=>exact f
  |cons=>exact f
end
mutual
def Bx(Q:ByteArray->Prop):Pt->Prop
 |.mk name text a=>(name.toList.isEmpty=false->Q name)/\qP Q a
def qP(Q:ByteArray->Prop):List Pt->Prop
 |[]=>True
 |k::r=>Bx Q k/\qP Q r
end
mutual
def KV{Q:ByteArray->Prop}:∀(p:Pt) (n:Nat) (c a d:Int),Bx Q p->∀x∈flat n c a d p,x.kind=2\/(x.kind=1/\Q x.name)
 |.mk name text e,n,c,a,d,hq,x,b=>by
  unfold flat at b;unfold Bx at hq;by_cases f:name.toList.isEmpty=true
  .rw[aS f]at b;rw[bG.1 b];exact .inl rfl
  .rw[aI f]at b;rcases aw.1 b with rfl|b
   .exact .inr ⟨rfl,hq.1 (by simpa using f)⟩
   .exact qQ e (n+1) n (-1) hq.2 x b
def qQ{Q:ByteArray->Prop}:∀(l:List Pt) (s:Nat) (b a:Int),qP Q l->∀x∈fo s b a l,x.kind=2\/(x.kind=1/\Q x.name)
 |[],s,b,a,hq,x,c=>by unfold fo at c;cases c
 |k::r,s,b,a,hq,x,c=>by
  unfold fo at c;unfold qP at hq;rcases aJ.1 c with h|h
  .exact KV k s b a _ hq.1 x h
  .exact qQ r _ b s hq.2 x h
end
mutual
def Il:∀(p:Pt) (n:Nat) (b a d:Int) (i:Nat) (x:Nd),(flat n b a d p)[i]? =some x->(i=0/\x.par=b)\/∃(j:Nat) (y:Nd),x.par=((n+j:Nat):Int)/\(flat n b a d p)[j]? =some y/\y.kind=1
 |.mk name text e,n,b,a,d,i,x,c=>by
  unfold flat at c|-;by_cases f:name.toList.isEmpty=true
  .rw[aS f]at c|-;cases i with
   |zero=>cases c;exact .inl ⟨rfl,rfl⟩
   |succ i=>simp at c
  .rw[aI f]at c|-;cases i with
   |zero=>cases c;exact .inl ⟨rfl,rfl⟩
   |succ i=>
    rw[ap]at c;rcases CE e (n+1) n (-1) i x c with h|⟨j,y,g,k,l⟩
    .exact .inr ⟨0,_,by rw[h];rfl,rfl,rfl⟩
    .exact .inr ⟨j+1,y,by rw[g];congr 1;omega,by rw[ap];exact k,l⟩
def CE:∀(l:List Pt) (s:Nat) (b a:Int) (i:Nat) (x:Nd),(fo s b a l)[i]? =some x->x.par=b\/∃(j:Nat) (y:Nd),x.par=((s+j:Nat):Int)/\(fo s b a l)[j]? =some y/\y.kind=1
 |[],s,b,a,i,x,c=>by unfold fo at c;simp at c
 |k::r,s,b,a,i,x,c=>by
  unfold fo at c|-;by_cases g:i<sz k
  .rw[an (by rw[ep.dT];exact g)]at c;rcases Il k s b a _ i x c with h|⟨j,y,e,d,f⟩
   .exact .inl h.2
   .exact .inr ⟨j,y,e,by rw[an (aa.1 d).1];exact d,f⟩
  .rw[ay (by rw[ep.dT];omega),ep.dT]at c;rcases CE r (s+sz k) b s (i-sz k) x c with h|⟨j,y,e,d,f⟩
   .exact .inl h
   .refine .inr ⟨sz k+j,y,by rw[e];congr 1;omega,?_,f⟩;rw[ay (by rw[ep.dT];omega),ep.dT,fC];exact d
end
def M1{L:List Nd}{p:Pt}(h:qO L n p):n<L.length:=by
 cases p with
 |mk name text b=>
  unfold qO at h;split at h
  .obtain⟨x,a,-⟩:=h;exact(aa.1 a).1
  .obtain⟨⟨x,a,-⟩,-⟩:=h;exact(aa.1 a).1
def M2{L:List Nd}:∀{l:List Pt} {s:Nat},nw L s l->l≠[]->s+l.length<=L.length
 |[],s,h,b=>absurd rfl b
 |k::r,s,h,_=>by
  unfold nw at h;have c:=M1 h.1;by_cases a:r=[]
  .subst a;simp;omega
  .have d:=M2 h.2 a;have:=EF k;rw[aW];omega
def KW{L:List Nd}{l:List Pt}(h:nw L s l)(c:1<=s){x:Nd}(b:L[n]? =some x):l.length<L.length:=by
 by_cases a:l=[]
 .subst a;have:=(aa.1 b).1;simp;omega
 .have:=M2 h a;omega
def Im(s:ByteArray):sz (iX s)=2:=by simp[iX,sz,x3,ne1,ne0]
def Pd(a:List ByteArray):x3 (a.map iX)=2*a.length:=by
 induction a with
 |nil=>simp[x3]
 |cons s a ih=>rw[bV];unfold x3;rw[ih,Im,aW];omega
def Wi(a:List ByteArray):sz (kg a)=1+2*a.length:=by
 unfold kg sz;rw[aI (by simp[ne2]),Pd]
def XV(a:ByteArray):jc:=if a=bN Hm then .root else if a=bN Vs then .tab else if a=bN nTr then .tr else .td
def SD(k:jc):XV (bN k.nm)=k:=by cases k<;>rfl
def mL(x:Nd):List D:=if x.kind=2 then bh 0 0 else(XV x.name).sty
def M3(x:Nd):ik (mL x):=by
 unfold mL;split
 .exact bu _ _
 .exact jc.is _
def o7{x:Nd}(a:x.kind=1){k:jc}(b:x.name=bN k.nm):mL x=k.sty:=by
 unfold mL;rw[aI (by rw[a];decide),b,SD]
def M4{x:Nd}(a:x.kind=2):mL x=bh 0 0:=by
 unfold mL;rw[aS a]
def x6(n:Nat)(s:ByteArray):Bt:=.mk 5 n n (bh 6 4278190335) eQ [.mk 7 (n+1:Nat) (n+1:Nat) (bh 0 0) s []]
def lF(n:Nat):List ByteArray->List Bt
 |[]=>[]
 |s::r=>x6 n s::lF (n+2) r
def Pe(n:Nat)(a:List ByteArray):Bt:=.mk 4 n n (bh 5 0) eQ (lF (n+1) a)
def gQ(n:Nat):List (List ByteArray)->List Bt
 |[]=>[]
 |r::R=>Pe n r::gQ (n+(1+2*r.length)) R
def Io(R:List (List ByteArray)):Bt:=.mk 3 1 1 (bh 4 0) eQ (gQ 2 R)
def M5(R:List (List ByteArray)):Bt:=.mk 1 0 0 (bh 1 0) eQ [Io R]
def qR(n:Nat)(a:List ByteArray):(lF n a).length=a.length:=by
 induction a generalizing n with
 |nil=>rfl
 |cons s r ih=>simp[lF,ih]
def uJ(n:Nat)(R:List (List ByteArray)):(gQ n R).length=R.length:=by
 induction R generalizing n with
 |nil=>rfl
 |cons s r ih=>simp[gQ,ih]
def kX(s:Nat)(l:List Pt):(jz s l).length=l.length:=by
 induction l generalizing s with
 |nil=>rfl
 |cons k r ih=>simp[jz,ih]
def M6{L:List Nd}:∀{b:List ByteArray} {s:Nat},nw L s (b.map iX)->∀{i k:Nat} {t:Bt},(jz s (b.map iX))[i]? =some k->(lF s b)[i]? =some t->∃x∈b,t=x6 k x/\qO L k (iX x)
 |[],s,h,i,k,t,a,c=>by simp[lF]at c
 |x::b,s,h,i,k,t,a,c=>by
  rw[bV]at h a;unfold nw at h;unfold jz at a;cases i with
  |zero=>
   cases a;cases c;exact⟨x,by simp,rfl,h.1⟩
  |succ i=>
   rw[Im]at h a;obtain⟨y,d,e,f⟩:=M6 h.2 (by simpa using a) (by simpa[lF]using c);exact⟨y,by simp[d],e,f⟩
def M7{L:List Nd}:∀{R:List (List ByteArray)} {s:Nat},nw L s (R.map kg)->∀{i k:Nat} {t:Bt},(jz s (R.map kg))[i]? =some k->(gQ s R)[i]? =some t->∃x∈R,t=Pe k x/\qO L k (kg x)
 |[],s,h,i,k,t,a,b=>by simp[gQ]at b
 |x::f,s,h,i,k,t,a,b=>by
  rw[bV]at h a;unfold nw at h;unfold jz at a;cases i with
  |zero=>
   cases a;cases b;exact⟨x,by simp,rfl,h.1⟩
  |succ i=>
   rw[Wi]at h a;obtain⟨y,c,d,e⟩:=M7 h.2 (by simpa using a) (by simpa[gQ]using b);exact⟨y,by simp[c],d,e⟩
def Ip{a:List ByteArray}{t:Bt}(h:t∈lF s a):∃n x,t=x6 n x:=by
 induction a generalizing s with
 |nil=>cases h
 |cons y a ih=>
  rcases aw.1 h with rfl|h
  .exact⟨_,_,rfl⟩
  .exact ih h
def Iq{R:List (List ByteArray)}{t:Bt}(h:t∈gQ s R):∃n x,t=Pe n x:=by
 induction R generalizing s with
 |nil=>cases h
 |cons y a ih=>
  rcases aw.1 h with rfl|h
  .exact⟨_,_,rfl⟩
  .exact ih h
