/- part of topCells.proved -/
import Derived.Test.YtkkiefcapbddkaaGreatDoorQc
import Derived.Test.YtkkiefcapbddkaaGreatDoorProg
set_option linter.all false
set_option maxRecDepth 1000000
set_option maxHeartbeats 0
noncomputable section
namespace Go.Abs
open Go.RowKit Go.Proofs
variable{f:FuncId}{p:Int×Int}{n:Nat}{x:Operand}{o out:Out}{P:Program}{t:TypeId}{k m v y:V}{h:bw}{b:gI}
def u_T:Tryz.prog.underlying 176=some (.pointer 178):=by kernel_rfl
def u_U:Tryz.prog.underlying 373=some .unsafePointer:=by kernel_rfl
def u_S:Tryz.prog.underlying 32=some (.slice 5):=by kernel_rfl
def u_P:Tryz.prog.underlying 276=some (.pointer 5):=by kernel_rfl
def i_B:(Tryz.prog.info? 178).map (·.size)=some 2:=by kernel_rfl
def l_B:liesAt tp Tryz.prog.depth 178 (2/Tryz.prog.cellsOf 178) 0 178 1=true:=by kernel_rfl
def i_Y:(Tryz.prog.info? 5).map (fun i=>(i.zero,i.size,i.bytes))=some (some (.int .u8 0),1,1):=by kernel_rfl
def c_Y:Tryz.prog.cellsOf 5=1:=by kernel_rfl
def Uq(b:Nat)(w:World)(d:w.cell? b=pt b):
 Calls tp 165 #[pt b] w fun e a=>e=rQ/\a=w:=by
 obtain⟨j,c,_⟩:=Option.map_eq_some_iff.1 i_B;go_enter Tryz.func165,Tryz.ntmps165
 go_wp2
 rw[Lib.run_neq_ptr_same w _ u_T c]
 go_wp2
 go_end0
 exact⟨rfl,rfl⟩
def Qk(b:Nat)(w:World)(h:w.cell? b=some (.pointer none))(a:w.shape? b=some (178,2))(f:w.frozen? b=false):
 Calls tp 165 #[pt b] w fun e g=>e=rQ/\g=w.setCell b (pt b):=by
 obtain⟨j,d,c⟩:=Option.map_eq_some_iff.1 i_B;go_enter Tryz.func165,Tryz.ntmps165
 go_wp2
 rw[Lib.run_to_unsafe w b u_T u_U d (by rw[c];decide) a (Nat.zero_lt_succ 1)];simp only[Result.andThen];rw[Un]
 go_wp2
 rw[FA Tryz.func249 (by kernel_rfl) (by kernel_rfl) (by kernel_rfl) (e:=Extern.AbiNoEscape.same) (by kernel_rfl)];rw[Lib.run_noEscape];simp only[Result.andThen];rw[Un]
 go_wp2
 rw[Lib.run_from_unsafe w b u_U u_T d a l_B];simp only[Result.andThen];rw[Un]
 go_wp2
 go_end0
 exact⟨rfl,rfl⟩
def Ur(B b:Nat)(c:List Value)(w:World)(h:Lib.IsBuilder 178 5 B b c w):
 Calls tp 165 #[pt b] w fun e a=>e=rQ/\(Lib.BuilderAt 178 5 B b (pt b) c a/\Below B w a):=by
 rcases h with h|h
 .refine(Qk b w h.cell0 h.shape h.frozen0).mono ?_;rintro e a ⟨rfl,rfl⟩;exact⟨rfl,h.used _,(Below.refl B w).setCell h.1 _⟩
 .refine(Uq b w h.cell0).mono ?_;rintro e a ⟨rfl,rfl⟩;exact⟨rfl,h,Below.refl B _⟩
def X8(B b:Nat)(n:List Value)(c:Int)(w:World)(h:Lib.IsBuilder 178 5 B b n w)(z:n.length+1<=140737488355328)(F:B<=w.heap.size):
 Calls tp 82 #[pt b,.int .u8 c] w fun e A=>e=.returned .nilIface/\(Lib.BuilderAt 178 5 B b (pt b) (n++[.int .u8 c]) A/\Below B w A):=by
 obtain⟨G,H,q,r,s⟩:=info_parts i_Y;go_enter Tryz.func82,Tryz.ntmps82
 go_wp2_with (go_at_call 165;refine(Ur B b n _ h).mono ?_)
 rintro e o ⟨rfl,I,f⟩;obtain⟨C,v,l,i,t⟩:=I;have c1:o.cell? (b,1)=some v:=by rw[Qj l];rfl
 go_wp2_with (at_builtin;refine eC _ rfl _ _ 32 rfl B 5 G (.int .u8 0) 1 1 u_S H q r s rfl (by decide) _ _ _ rfl (i.alloc _) o 1 1 [.int .u8 c] rfl rfl ?c1 ?c2 ?c3 ?c4 ?c5 ?_)
 case c1=>
  intro j u p
  match j,p with
  |0,p=>simp at p;subst p;simp[Addr.add]
 case c2=>intro u D;simp at D;subst D;rfl
 case c3=>unfold maxLen;omega
 case c4=>omega
 case c5=>have:=f.size;simp;omega
 intro J E a d _;have x:b<o.heap.size:=by
  rcases cD b o with y|y
  .exact y
  .simp[cV y]at l
 have m:E.heap[b]? =some (.cells #[pt b,v] 178 (0,0)):=by
  rw[d.block b (by simp;omega) (fun e=>t e.symm),Lib.alloc_old o _ b x];exact l
 have d1:E.cell? (b,1)=some v:=by rw[Qj m];rfl
 have f1:=Lib.frozen_of_heap m 1;obtain⟨g,cap,rfl⟩:∃g cap,J=.slice (some ⟨g,0,none⟩) (n.length+1) cap:=by
  rcases a.2 with⟨_,N⟩|⟨g,cap,K,L,_⟩
  .omega
  .exact⟨g,cap,L⟩
 go_wp2
 go_ret
 refine⟨rfl,?_,?_⟩
 .exact Lib.BuilderAt.put (T:=178) (e:=5) C m (bs':=n++[.int .u8 c]) (by simpa using a) (by decide)
 .exact((f.alloc (by have:=f.size;omega) _).grown d (by have:=f.size;simp;omega) (fun k M=>(i.lt k M).1)).setCell C _
def Ql(B b:Nat)(l:List UInt8)(w:World)(h:Lib.IsBuilder 178 5 B b (Lib.byteCells l) w)(o:l≠[]):
 Calls tp 83 #[pt b] w fun e q=>e=.returned (.string ⟨l.toArray⟩)/\Below B w q:=by
 obtain⟨p,F,v,d,c,s⟩:∃p,Lib.BuilderAt 178 5 B b p (Lib.byteCells l) w:=by
  rcases h with h|h
  .exact⟨_,h⟩
  .exact⟨_,h⟩
 have f:l.length≠0:=by simpa using o
 rw[adj]at c;obtain⟨g,cap,a,rfl,i,t,u,k,y,m⟩:∃g cap a,v=.slice (some ⟨g,0,none⟩) l.length cap/\B<=g/\w.heap[g]? =some (.cells a 5 (0,0))/\l.length<=cap/\cap<=maxLen/\a.size=cap*1/\a.toList.take (l.length*1)=Lib.byteCells l:=by
  rcases c.2 with⟨_,z⟩|⟨g,cap,a,A,r⟩
  .exact absurd z f
  .exact⟨g,cap,a,A,r⟩
 have G:w.drew.cell? (b,1)=(g,l.length,cap):=by
  have:w.drew.heap[b]? =some (.cells #[p,(g,l.length,cap)] 178 (0,0)):=d;rw[Qj this];rfl
 have C:(Builtin.unsafeSliceData_ #[32] 276 #[(g,l.length,cap)]).run tp w.drew=.ok (pt g) w.drew:=
  Lib.run_unsafeSliceData_row _ _ _ _ _ _ (by omega)
 have D:(Builtin.unsafeString_ #[276,3] 9 #[pt g,l.length]).run tp w.drew=.ok (.string ⟨l.toArray⟩) (w.drew.freeze g l.length):=by
  refine Lib.run_unsafeString_row w.drew 276 3 9 5 u_P c_Y g a.size (by have n:w.drew.heap[g]? =some (.cells a 5 (0,0)):=t;simp[World.shape?,n]) l o (by omega) (by unfold maxLen at k;omega) ?_;intro j x E;have:=c.cells (g:=g) rfl j (.int .u8 x.toNat) (by simp[Lib.byteCells,E]);exact this
 go_enter Tryz.func83,Tryz.ntmps83
 go_wp2
 go_region
 all_goals(go_wp2;go_ret;exact⟨rfl,Lib.below_freeze (Below.drew (Below.refl B w)) i _⟩)
section
variable[de]
section
variable{P:Program}{g:Gh}{h:bw}{w:World}{tab:gI}
def GX(a:Rel g h w)(hq:g.U n=false)(t:TypeId):VS P (Instr.makeMap t none) g h w n ⟨.m n,[(n,some (.map []))],n+1⟩:=by
 obtain⟨b,c⟩:=xL a hq (.map #[] 0) 0 (.map []) (fun _=>by simp) (.map [] w 0 #[] 0 (aR _ _ _) (heap_alloc_new w _) rfl (fun i x e h=>by simp at h));refine⟨_,_,_,?_,.m n w 0 (aR _ _ _) (aR _ _ _),b,c,fun k d=>lm (ae _) (Nat.lt_succ_self _) d⟩;unfold Instr.makeMap;simp only[aB,cH];rfl
def Vg(s:List Sb)(a:List (V×V)):Option (Option Nat):=List.rec (some none) (fun e _ ih=>Prod.rec (fun k _=>Option.rec none (fun y=>ob (Uh s y) fun b=>Bool.rec (ob ih fun r=>some (Option.rec none (fun j=>some (Nat.succ j)) r)) (some (some 0)) b) (asS k)) e) a
def YI{s:List Sb}(h:asS v=some s):v=.d (.s s):=by
 cases v with
 |d d=>cases d with
  |s x=>cases h;rfl
  |_=>cases h
 |_=>cases h
def Found(kind:TypeDesc)(b:Value)(d:List (V×V))(a:List MapEntry)(c:Nat):Option Nat->Prop
 |none=>Instr.findNow kind b a c=some none
 |some j=>∃e x,a[j]? =some e/\d[j]? =some x/\e.key=b/\Instr.findNow kind b a c=some (some (c+j,e.val))
def qE{s:List Sb}{b:ByteArray}(u:SR s b.data.toList):∀{es:List (V×V)} {ents:List MapEntry} {r:Option Nat} (l:Nat),ents.length=es.length->
 (∀(i:Nat) x e,es[i]? =some x->ents[i]? =some e->GV g h w x.1 e.key)->Vg s es=some r->Found .string (.string b) es ents l r
 |[],[],r,l,m,n,d=>by
  have d:some none=some r:=d;cases d;exact rfl
 |[],_::_,r,l,m,n,d=>by cases m
 |_::_,[],r,l,m,n,d=>by cases m
 |(k,v)::es,e::ents,r,l,m,n,d=>by
  have d:(Option.rec none (fun y=>ob (Uh s y) fun b=>Bool.rec (ob (Vg s es) fun r=>some (Option.rec none (fun j=>some (Nat.succ j)) r)) (some (some 0)) b) (asS k):Option (Option Nat))=some r:=d;cases o:asS k with
  |none=>rw[o]at d;cases d
  |some y=>
   rw[o]at d;have o:=YI o;subst o;have z:=(n 0 _ _ rfl rfl).cG;obtain⟨q,B,d⟩:=bK d;generalize f:e.key=G at z;cases z with
   |s _ p t=>
    have hq:(b==p)=q:=by
     show(b.data==p.data)=q;rw[<-yn B u t,Bool.eq_iff_iff,fZ,fZ];constructor
     .intro e;rw[e]
     .intro e;exact LK.1 e
    cases q with
    |true=>
     cases d;refine⟨e,_,rfl,rfl,?_,?_⟩
     .rw[f];have hq:(b.data==p.data)=true:=hq;rw[fZ]at hq;cases b;cases p;cases hq;rfl
     .unfold Instr.findNow;rw[f];simp only[Instr.sameNow,hq];rfl
    |false=>
     obtain⟨C,D,d⟩:=bK d;have A:=qE u (l+1) (by simpa using m) (fun i x e a c=>n (i+1) x e a c) D;cases C with
     |none=>
      cases d;show Instr.findNow _ _ _ _=_;unfold Instr.findNow;rw[f];simp only[Instr.sameNow,hq];exact A
     |some j=>
      cases d;obtain⟨E,F,d1,d2,d3,d4⟩:=A;refine⟨E,F,d1,d2,d3,?_⟩;unfold Instr.findNow;rw[f];simp only[Instr.sameNow,hq];rw[d4,Nat.add_assoc,Ji 1 j]
def xb(tab:gI)(h:bw)(n:Nat)(t:TypeId)(m k:V):Option Out:=
 match tab t,m,k with
 |some ⟨.map b c,_,_,_⟩,.m j,.d (.s s)=>match h j,tab b,tab c with
  |some (.map a),some ⟨.str,_,_,_⟩,some ⟨.int _,_,_,[.i f z]⟩=>ob (Vg s a) fun r=>Option.rec (some (dF n (.d (.i f z)))) (fun i=>ob (nth a i) fun e=>Prod.rec (fun _ v=>some (dF n v)) e) r
  |_,_,_=>none
 |_,_,_=>none
def Mo(c:dN P tab){e f:TypeId}{a b:Nat}{z:List D}(h:tab t=some ⟨.map e f,a,b,z⟩):P.underlying t=some (.map e f):=by
 obtain⟨d,_,i,j⟩:=dj (c _ _ h) default;cases d<;>simp[eM]at i;obtain⟨rfl,rfl⟩:=i;exact j
def Mq(c:dN P tab){a b:Nat}{z:List D}(h:tab t=some ⟨.str,a,b,z⟩):P.underlying t=some .string:=by
 obtain⟨d,_,e,f⟩:=dj (c _ _ h) default;cases d<;>simp[eM]at e;exact f
def Od(l:dN P tab)(C:Rel g h w)(f:xb tab h n t m k=some o){I J:Value}(Q:GV g h w m I)(R:GV g h w k J):VS P (Instr.lookup t I J false) g h w n o:=by
 unfold xb at f;split at f
 .next kt vt _ _ _ j s S=>
  split at f
  .next D _ _ _ _ _ _ K z T E F=>
   have U:=R.cG;cases U with
   |s _ b W=>
   cases Q with
   |m _ bk sz hn G=>
    cases C.obj j _ T with
    |map _ X Y p clock y L Z M=>
     rw[G]at y;cases y;obtain⟨r,h1,f⟩:=bK f;have B:=qE (g:=g) (h:=h) (w:=w) W (es:=D) (ents:=p.toList) 0 (by simpa using Z) (fun i x e a c=>(M i x e a (by simpa using c)).1) h1;have hum:=Mo l S;have q:=Mq l E;have A:MapKept.IsKey .string (.string b):=trivial;cases r with
     |none=>
      cases f;obtain⟨u,z1,N,H,z4⟩:=ms (l _ _ F) w;have B:Instr.findNow .string (.string b) p.toList 0=some none:=B;have hz:u=.int K z:=by
       have H:Dq u=false:=H;have hc:u.cells=#[u]:=by cases u<;>first|rfl|cases H
       rw[hc]at N;have:=(mq N).2 0 u (.i K z) rfl rfl;unfold NF at this;split at this<;>first|(cases this;rfl)|cases this
      refine VS.pure C (v:=u) ?_ ?_
      .simp[Instr.lookup,bT hum,MapKept.run_getObj_map L,MapKept.run_checkKey q A,MapKept.run_findKey q B,z1,Result.andThen]
      .rw[hz];exact .d _ _ (.i _ _)
     |some i=>
      obtain⟨e,x,e1,O,e3,e4⟩:=B;have f:ob (nth D i) (fun e=>Prod.rec (fun _ v=>some (dF n v)) e)=some o:=f;rw[yO,O]at f;obtain⟨xk,xv⟩:=x;cases f;refine VS.pure C (v:=e.val) ?_ ?_
      .simp[Instr.lookup,bT hum,MapKept.run_getObj_map L,MapKept.run_checkKey q A,MapKept.run_findKey q e4,Result.andThen]
      .exact(M i _ _ O (by simpa using e1)).2
  .cases f
 .cases f
def GY(tab:gI)(h:bw)(n:Nat)(t:TypeId)(m k v:V):Option Out:=
 match tab t,m,k with
 |some ⟨.map b _,_,_,_⟩,.m j,.d (.s s)=>match h j,tab b with
  |some (.map a),some ⟨.str,_,_,_⟩=>ob (Vg s a) fun r=>some ⟨.tu [],[(j,some (.map (Option.rec (ig a [(k,v)]) (fun i=>Ed a (k,v) i) r)))],n⟩
  |_,_=>none
 |_,_,_=>none
def yY{α:Type}:∀(l:List α) (x:α) (i k:Nat),(Ed l x i)[k]? =if k=i/\k<l.length then some x else l[k]?
 |[],x,i,k=>by show([]:List α)[k]? =_;simp
 |y::l,x,0,k=>by
  show(x::l)[k]? =_;cases k<;>simp
 |y::l,x,i+1,k=>by
  show(y::Ed l x i)[k]? =_;cases k with
  |zero=>simp
  |succ k=>
   rw[ap,yY l x i k];simp
def yZ{α:Type}:∀(l:List α) (x:α) (i:Nat),(Ed l x i).length=l.length
 |[],x,i=>rfl
 |y::l,x,0=>rfl
 |y::l,x,i+1=>by show(y::Ed l x i).length=_;simp[yZ l x i]
def map_set(s:Rel g h w){j l sz:Nat}{v:List (V×V)}{m:Array MapEntry}{clock:Nat}(k:g.σ j=some (l,sz))(z:h j=some (.map v))(A:w.heap[l]? =some (.map m clock)):
 ∀(f:List (V×V)) (b:Array MapEntry) (d:Nat),b.size=f.length->
  (∀(i:Nat) x e,f[i]? =some x->b[i]? =some e->GV g h w x.1 e.key/\GV g h w x.2 e.val)->
  Rel g (ft h [(j,some (.map f))]) {w with heap:=w.heap.setIfInBounds l (.map b d)}/\Ext g h w g (ft h [(j,some (.map f))]) {w with heap:=w.heap.setIfInBounds l (.map b d)}:=fun f b d B u=>by
 have o:∀ob:Obj,At w {w with heap:=w.heap.setIfInBounds l ob} l:=fun ob=>⟨rfl,rfl,rfl,by simp,fun y C=>by simp[Ne.symm C]⟩;have p:=s.lt l (nM.Jr k);have r:=Dp (h':=up h j (some (.map f))) s k (fun c t D=>by rw[A];simp) (o (.map b d)) (fun q hq=>bI _ _ _ hq) (fun n=>by rw[aR];simp);refine⟨rp s k z (fun n=>by simp) (fun n=>by simp) (o _) r (.map f l sz b d k (by simp[p]) B fun i x e a c=>?_),r⟩;exact⟨((u i x e a c).1).ext r,((u i x e a c).2).ext r⟩
def map_push{f:List (V×V)}{b:Array MapEntry}{j l:Value}{clock:Nat}(o:b.size=f.length)
 (p:∀(i:Nat) x e,f[i]? =some x->b[i]? =some e->GV g h w x.1 e.key/\GV g h w x.2 e.val)(q:GV g h w k j)(r:GV g h w v l):
 ∀(i:Nat) x e,(ig f [(k,v)])[i]? =some x->(b.push {key:=j,val:=l,born:=clock})[i]? =some e->GV g h w x.1 e.key/\GV g h w x.2 e.val:=fun i x e a c=>by
 rw[ll,AW]at a;rw[abr]at c;by_cases m:i<f.length
 .rw[aS m]at a;rw[aI (by omega)]at c;exact p i x e a c
 .rw[aI m]at a;have d:i=b.size:=by
   by_cases n:i=b.size
   .exact n
   .rw[aI n]at c;have:=(aP.1 c).1;omega
  rw[aS d]at c;cases c;rw[d,o,Nat.sub_self]at a;cases a;exact⟨q,r⟩
def Vh{j:List (V×V)}{b:Array MapEntry}{l m:Value}{i:Nat}
 (n:∀(i:Nat) x e,j[i]? =some x->b[i]? =some e->GV g h w x.1 e.key/\GV g h w x.2 e.val)(o:GV g h w k l)(p:GV g h w v m):
 ∀(q:Nat) x e,(Ed j (k,v) i)[q]? =some x->(b.modify i fun e=>{e with key:=l,val:=m})[q]? =some e->GV g h w x.1 e.key/\GV g h w x.2 e.val:=fun q x e a c=>by
 rw[yY]at a;rw[nC]at c;split at a
 .next d=>
  cases a;rw[aS d.1.symm]at c;obtain⟨s,_,rfl⟩:=Option.map_eq_some_iff.1 c;exact⟨o,p⟩
 .next d=>
  have f:¬i=q:=fun r=>d ⟨r.symm,(List.getElem?_eq_some_iff.1 a).1⟩;rw[aI f]at c;exact n q x e a c
def Ru(B:dN P tab)(N:Rel g h w)(C:GY tab h n t m k v=some o){vm vk O:Value}(hm:GV g h w m vm)(D:GV g h w k vk)(hv:GV g h w v O):
 ∃W X,(Instr.mapUpdate t vm vk O).run P w=.ok () W/\o.x=.tu []/\Rel X (ft h o.us) W/\Ext g h w X (ft h o.us) W/\∀k,X.U k=true->g.U k=true:=by
 unfold GY at C;split at C
 .next kt vt _ _ _ j s ht=>
  split at C
  .next H _ _ _ hj Y=>
   have h0:=D.cG;cases h0 with
   |s _ b hs=>
   cases hm with
   |m _ F sz hn z=>
    cases N.obj j _ hj with
    |map _ a5 a9 l clock I J Q Z=>
     rw[z]at I;cases I;obtain⟨r,h1,C⟩:=bK C;cases C;have R:=qE (g:=g) (h:=h) (w:=w) hs (es:=H) (ents:=l.toList) 0 (by simpa using Q) (fun i x e a c=>(Z i x e a (by simpa using c)).1) h1;have hum:=Mo B ht;have A:=Mq B Y;have E:MapKept.IsKey .string (.string b):=trivial;have K:∀ob:Obj,At w {w with heap:=w.heap.setIfInBounds F ob} F:=fun ob=>⟨rfl,rfl,rfl,by simp,fun y hy=>by simp[dc,Ne.symm hy]⟩;have L:=N.lt F (nM.Jr z);have fin:∀(u:List (V×V)) (f:Array MapEntry) (p:Nat),f.size=u.length->
      (∀(i:Nat) x e,u[i]? =some x->f[i]? =some e->GV g h w x.1 e.key/\GV g h w x.2 e.val)->
      Rel g (ft h [(j,some (.map u))]) {w with heap:=w.heap.setIfInBounds F (.map f p)}/\Ext g h w g (ft h [(j,some (.map u))]) {w with heap:=w.heap.setIfInBounds F (.map f p)}:=fun u f p l1 l2=>by
      have S:=Dp (h':=up h j (some (.map u))) N z (fun c t fz=>by rw[J];simp) (K (.map f p)) (fun q hq=>bI _ _ _ hq) (fun n=>by rw[aR];simp);refine⟨rp N z hj (fun n=>by simp) (fun n=>by simp) (K _) S (.map u F sz f p z (by simp[L]) l1 fun i x e a c=>?_),S⟩;exact⟨((l2 i x e a c).1).ext S,((l2 i x e a c).2).ext S⟩
     cases r with
     |none=>
      have R:Instr.findNow .string (.string b) l.toList 0=some none:=R;obtain⟨f1,f2⟩:=fin (ig H [(.d (.s s),v)]) (l.push {key:=.string b,val:=O,born:=clock}) (clock+1) (by rw[ll];simp[Q]) (fun i x e a c=>by
       rw[ll,AW]at a;rw[abr]at c;by_cases T:i<H.length
       .rw[aS T]at a;rw[aI (by omega)]at c;exact Z i x e a c
       .rw[aI T]at a;have M:i=l.size:=by
         by_cases G:i=l.size
         .exact G
         .rw[aI G]at c;have:=(aP.1 c).1;omega
        rw[aS M]at c;cases c;rw[M,Q,Nat.sub_self]at a;cases a;exact⟨D,hv⟩)
      refine⟨_,g,?_,rfl,f1,f2,fun k D=>D⟩;simp[Instr.mapUpdate,bT hum,MapKept.run_getObj_map J,MapKept.run_checkKey A E,MapKept.run_findKey A R,MapKept.run_setObj_map _ J,Result.andThen]
     |some i=>
      obtain⟨e,x,e1,e2,e3,e4⟩:=R;have T:l[i]? =some e:=by simpa using e1
      have e4:Instr.findNow .string (.string b) l.toList 0=some (some (i,e.val)):=by simpa using e4
      obtain⟨f1,f2⟩:=fin (Ed H (.d (.s s),v) i) (l.modify i fun e=>{e with key:=.string b,val:=O}) clock (by rw[yZ];simp[Q]) (fun q x e a c=>by
       rw[yY]at a;rw[nC]at c;split at a
       .next G=>
        cases a;rw[aS G.1.symm]at c;obtain⟨e0,_,rfl⟩:=Option.map_eq_some_iff.1 c;exact⟨D,hv⟩
       .next G=>
        have am:¬i=q:=fun e5=>G ⟨e5.symm,(List.getElem?_eq_some_iff.1 a).1⟩;rw[aI am]at c;exact Z q x e a c)
      refine⟨_,g,?_,rfl,f1,f2,fun k D=>D⟩;simp[Instr.mapUpdate,bT hum,MapKept.run_getObj_map J,MapKept.run_checkKey A E,MapKept.run_findKey A e4,T,e3,MapKept.run_keyThatStays E,MapKept.run_setObj_map _ J,Result.andThen]
  .cases C
 .cases C
end
end
section
def Mr(w:World)(a b c d:Int):(Op.equal 451 (.agg #[a,b]) (.agg #[c,d])).run Go.Proofs.Tryz.prog w=.ok (a==c&&b==d) w:=by
 unfold Op.equal Op.maxDepth;rw[adK w 9999 451 _ _ rfl (by decide+kernel)];have e:∃f1 f2:Field,(Go.Proofs.Tryz.prog.fieldsOf 451).toList=[f1,f2]/\f1.name≠ "_" /\f2.name≠ "_" /\f1.type=3/\f2.type=3/\f1.offset=0/\f2.offset=1:=⟨_,_,rfl,by decide+kernel,by decide+kernel,rfl,rfl,rfl,rfl⟩;obtain⟨f1,f2,f,i,j,k,l,m,n⟩:=e;have o:∀(x y:Int) (w:World),(part 3 #[.int .i64 x,.int .i64 y] 0).run Go.Proofs.Tryz.prog w=.ok (.int .i64 x) w:=fun x y w=>rfl;have p:∀(x y:Int) (w:World),(part 3 #[.int .i64 x,.int .i64 y] 1).run Go.Proofs.Tryz.prog w=.ok (.int .i64 y) w:=fun x y w=>rfl;have q:Go.Proofs.Tryz.prog.underlying 3=some (.int .i64):=rfl;rw[f];simp only[Op.eqFields,aS i,if_pos j,k,l,m,n,Sem.run_bind,o,p,Result.andThen_ok,run_equalIn_int w 9998 3 .i64 .i64 _ _ q,Sem.run_ite,cH];cases a==c<;>cases b==d<;>rfl
def rK(w:World)(e:Bool)(a b:Int):(Instr.checkKey e 10000 451 (.agg #[a,b])).run Go.Proofs.Tryz.prog w=.ok () w:=rfl
variable[de]
def J7(v:V):Option (Int×Int):=match v with
 |.a [.i .i64 a,.i .i64 b]=>some (a,b)
 |_=>none
def Eh(h:J7 v=some p):v=.a [.i .i64 p.1,.i .i64 p.2]:=by
 unfold J7 at h;split at h
 .cases h;rfl
 .cases h
def GZ(p q:Int×Int):Bool:=Bool.rec false (AZ p.2 q.2) (AZ p.1 q.1)
def Oe(s:Int×Int)(a:List (V×V)):Option (Option Nat):=List.rec (some none) (fun e _ ih=>Prod.rec (fun k _=>Option.rec none (fun y=>Bool.rec (ob ih fun r=>some (Option.rec none (fun j=>some (Nat.succ j)) r)) (some (some 0)) (GZ s y)) (J7 k)) e) a
section
variable{g:Gh}{h:bw}{w:World}
def rL(p:Int×Int):Value:=.agg #[p.1,p.2]
def J8{v:Value}(e:GV g h w (.a [.i .i64 p.1,.i .i64 p.2]) v):v=rL p:=by
 cases e with
 |a cells f d l c=>
  match f,d,c with
  |[a,b],d,c=>
   have j:=c 0 _ _ rfl rfl;have k:=c 1 _ _ rfl rfl;cases j;cases k;rfl
def Vi(p q:Int×Int):GZ p q=(p.1==q.1&&p.2==q.2):=by
 unfold GZ;rw[mw,mw];show(Bool.rec false (p.2==q.2) (p.1==q.1):Bool)=_;cases p.1==q.1<;>rfl
def aaA(b:Value)(d:List (V×V))(a:List MapEntry)(c:Nat):Option Nat->Prop
 |none=>∀w:World,(Instr.findAsking 451 b a c).run Go.Proofs.Tryz.prog w=.ok none w
 |some j=>∃e x,a[j]? =some e/\d[j]? =some x/\e.key=b/\∀w:World,(Instr.findAsking 451 b a c).run Go.Proofs.Tryz.prog w=.ok (some (c+j,e.val)) w
def J9{p:Int×Int}:∀{es:List (V×V)} {ents:List MapEntry} {r:Option Nat} (l:Nat),ents.length=es.length->
 (∀(i:Nat) x e,es[i]? =some x->ents[i]? =some e->GV g h w x.1 e.key)->Oe p es=some r->aaA (rL p) es ents l r
 |[],[],r,l,m,n,b=>by
  have b:some none=some r:=b;cases b;exact fun w=>rfl
 |[],_::_,r,l,m,n,b=>by cases m
 |_::_,[],r,l,m,n,b=>by cases m
 |(k,v)::es,e::ents,r,l,m,n,b=>by
  have b:(Option.rec none (fun y=>Bool.rec (ob (Oe p es) fun r=>some (Option.rec none (fun j=>some (Nat.succ j)) r)) (some (some 0)) (GZ p y)) (J7 k):Option (Option Nat))=some r:=b;cases o:J7 k with
  |none=>rw[o]at b;cases b
  |some y=>
   rw[o]at b;have o:=Eh o;subst o;have f:=J8 (n 0 _ _ rfl rfl);have hq:=Vi p y;have d:∀w:World,(Op.equal 451 (rL p) (rL y)).run Go.Proofs.Tryz.prog w=.ok (GZ p y) w:=fun w=>by rw[hq];exact Mr w _ _ _ _
   cases q:GZ p y with
   |true=>
    have b:(Bool.rec (ob (Oe p es) fun r=>some (Option.rec none (fun j=>some (Nat.succ j)) r)) (some (some 0)) (GZ p y):Option (Option Nat))=some r:=b;rw[q]at b;cases b;rw[q]at d hq;have s:rL p=rL y:=by
     have:=Eq.symm hq;rw[ax,fZ,fZ]at this;unfold rL;rw[this.1,this.2]
    refine⟨e,_,rfl,rfl,f.trans s.symm,fun w=>?_⟩;unfold Instr.findAsking;rw[f];simp only[aB,d,Result.andThen_ok,iu,cH];rfl
   |false=>
    have b:(Bool.rec (ob (Oe p es) fun r=>some (Option.rec none (fun j=>some (Nat.succ j)) r)) (some (some 0)) (GZ p y):Option (Option Nat))=some r:=b;rw[q]at b;rw[q]at d;obtain⟨u,z,b⟩:=bK b;have t:=J9 (l+1) (by simpa using m) (fun i x e a c=>n (i+1) x e a c) z;cases u with
    |none=>
     cases b;intro w;unfold Instr.findAsking;rw[f];simp only[aB,d,Result.andThen_ok,ed,mU];exact t w
    |some j=>
     cases b;obtain⟨A,B,d1,d2,d3,d4⟩:=t;refine⟨A,B,d1,d2,d3,fun w=>?_⟩;unfold Instr.findAsking;rw[f];simp only[aB,d,Result.andThen_ok,ed,mU];rw[d4,Nat.add_assoc,Ji 1 j]
def qF{ents:List MapEntry}{a:Option (Nat×Value)}(d:∀w:World,(Instr.findAsking 451 (rL p) ents 0).run Go.Proofs.Tryz.prog w=.ok a w)(w:World):(Instr.findKey 451 (rL p) ents).run Go.Proofs.Tryz.prog w=.ok a w:=by
 have b:∃c,Go.Proofs.Tryz.prog.underlying 451=some (.struct c):=⟨_,rfl⟩;obtain⟨c,b⟩:=b;cases ents with
 |nil=>
  have:=d w;unfold Instr.findAsking at this;simp only[cH]at this;simp[Instr.findKey,bT b,Result.andThen,Instr.findNow];cases this;rfl
 |cons e f=>
  have i:Instr.findNow (.struct c) (rL p) (e::f) 0=none:=by
   unfold Instr.findNow;have:Instr.sameNow (.struct c) (rL p) e.key=none:=rfl;rw[this]
  simp[Instr.findKey,bT b,Result.andThen,i,d]
def Ei(h:bw)(n:Nat)(m k:V):Option Out:=match m with
 |.m j=>match h j with
  |some (.map a)=>ob (J7 k) fun p=>ob (Oe p a) fun r=>Option.rec (some (dF n (.d (.i .i64 0)))) (fun i=>ob (nth a i) fun e=>Prod.rec (fun _ v=>some (dF n v)) e) r
  |_=>none
 |_=>none
def zc(h:bw)(n:Nat)(t:TypeId)(m k:V):Option Out:=Bool.rec none (Ei h n m k) (Nat.beq t 446)
def Of(A:Rel g h w)(b:zc h n t m k=some o){H I:Value}(L:GV g h w m H)(M:GV g h w k I):VS Go.Proofs.Tryz.prog (Instr.lookup t H I false) g h w n o:=by
 unfold zc at b;cases l:Nat.beq t 446 with
 |false=>rw[l]at b;cases b
 |true=>
  rw[l]at b;have:=a6 l;subst this;have b:Ei h n m k=some o:=b;cases m with
  |m j=>
   unfold Ei at b;simp only at b;split at b
   .next B N=>
    obtain⟨p,C,D⟩:=bK b;have C:=Eh C;subst C;have E:=J8 M;subst E;cases L with
    |m _ U sz W F=>
     cases A.obj j _ N with
     |map _ O P f clock q l Q J=>
      rw[F]at q;cases q;obtain⟨r,R,s⟩:=bK D;have z:=J9 (g:=g) (h:=h) (w:=w) (p:=p) (es:=B) (ents:=f.toList) 0 (by simpa using Q) (fun i x e a c=>(J i x e a (by simpa using c)).1) R;have hum:Go.Proofs.Tryz.prog.underlying 446=some (.map 451 3):=rfl;have u:∀e:Bool,(Instr.checkKey e 10000 451 (rL p)).run Go.Proofs.Tryz.prog w=.ok () w:=fun e=>rK w e _ _;cases r with
      |none=>
       cases s;have z:=qF z w;have S:(zeroValue 3).run Go.Proofs.Tryz.prog w=.ok zQ w:=rfl;refine VS.pure A (v:=zQ) ?_ (.d _ _ (.i _ _));simp[Instr.lookup,bT hum,MapKept.run_getObj_map l,u,z,S,Result.andThen]
      |some i=>
       obtain⟨e,x,T,K,X,G⟩:=z;have G:=qF G w;have y:ob (nth B i) (fun e=>Prod.rec (fun _ v=>some (dF n v)) e)=some o:=s;rw[yO,K]at y;obtain⟨Y,Z⟩:=x;cases y;refine VS.pure A (v:=e.val) ?_ ?_
       .simp[Instr.lookup,bT hum,MapKept.run_getObj_map l,u,G,Result.andThen]
       .exact(J i _ _ K (by simpa using T)).2
   .cases b
  |_=>cases b
def Ms(h:bw)(n:Nat)(m k v:V):Option Out:=match m with
 |.m j=>match h j with
  |some (.map a)=>ob (J7 k) fun p=>ob (Oe p a) fun r=>some ⟨.tu [],[(j,some (.map (Option.rec (ig a [(k,v)]) (fun i=>Ed a (k,v) i) r)))],n⟩
  |_=>none
 |_=>none
def Ka(h:bw)(n:Nat)(t:TypeId)(m k v:V):Option Out:=Bool.rec none (Ms h n m k v) (Nat.beq t 446)
def Mt(p:Int×Int)(w:World):(Instr.keyThatStays (rL p) (rL p)).run Go.Proofs.Tryz.prog w=.ok (rL p) w:=by
 have:Instr.sameBits 10000 (rL p) (rL p)=true:=by
  unfold rL;simp[Instr.sameBits]
 unfold Instr.keyThatStays;rw[aS this];rfl
def Rv(K:Rel g h w)(d:Ka h n t m k v=some o){L M y:Value}(P:GV g h w m L)(l:GV g h w k M)(N:GV g h w v y):
 ∃C D,(Instr.mapUpdate t L M y).run Go.Proofs.Tryz.prog w=.ok () C/\o.x=.tu []/\Rel D (ft h o.us) C/\Ext g h w D (ft h o.us) C/\∀k,D.U k=true->g.U k=true:=by
 unfold Ka at d;cases f:Nat.beq t 446 with
 |false=>rw[f]at d;cases d
 |true=>
  rw[f]at d;have:=a6 f;subst this;have d:Ms h n m k v=some o:=d;cases m with
  |m j=>
   unfold Ms at d;simp only at d;split at d
   .next z O=>
    obtain⟨p,E,F⟩:=bK d;have E:=Eh E;subst E;have G:=J8 l;subst G;cases P with
    |m _ Y sz Z q=>
     cases K.obj j _ O with
     |map _ Q R b clock s f A H=>
      rw[q]at s;cases s;obtain⟨r,S,I⟩:=bK F;cases I;have B:=J9 (g:=g) (h:=h) (w:=w) (p:=p) (es:=z) (ents:=b.toList) 0 (by simpa using A) (fun i x e a c=>(H i x e a (by simpa using c)).1) S;have hum:Go.Proofs.Tryz.prog.underlying 446=some (.map 451 3):=rfl;have u:∀e:Bool,(Instr.checkKey e 10000 451 (rL p)).run Go.Proofs.Tryz.prog w=.ok () w:=fun e=>rK w e _ _;have fin:=map_set (h:=h) K q O f;cases r with
      |none=>
       have B:=qF B w;obtain⟨f1,f2⟩:=fin (ig z [(.a [.i .i64 p.1,.i .i64 p.2],v)]) (b.push {key:=rL p,val:=y,born:=clock}) (clock+1) (by rw[ll];simp[A]) (map_push A H l N);refine⟨_,g,?_,rfl,f1,f2,fun k l=>l⟩;simp[Instr.mapUpdate,bT hum,MapKept.run_getObj_map f,u,B,MapKept.run_setObj_map _ f,Result.andThen]
      |some i=>
       obtain⟨e,x,T,e2,W,J⟩:=B;have X:b[i]? =some e:=by simpa using T
       have J:=qF J w;obtain⟨f1,f2⟩:=fin (Ed z (.a [.i .i64 p.1,.i .i64 p.2],v) i) (b.modify i fun e=>{e with key:=rL p,val:=y}) clock (by rw[yZ];simp[A]) (Vh H l N);refine⟨_,g,?_,rfl,f1,f2,fun k l=>l⟩;simp[Instr.mapUpdate,bT hum,MapKept.run_getObj_map f,u,J,X,W,Mt,ie _ f,Result.andThen]
   .cases d
  |_=>cases d
end
end
def eq4(t:TypeId)(i:Go.Proofs.Tryz.prog.underlying t=some (.struct (Go.Proofs.Tryz.prog.fieldsOf t)))(j:Go.Proofs.Tryz.prog.stoodInHeld t=false)
 (k:∃f1 f2 f3 f4:Field,(Go.Proofs.Tryz.prog.fieldsOf t).toList=[f1,f2,f3,f4]/\f1.name≠ "_" /\f2.name≠ "_" /\f3.name≠ "_" /\f4.name≠ "_" /\f1.type=2/\f2.type=2/\f3.type=2/\f4.type=2/\f1.offset=0/\f2.offset=1/\f3.offset=2/\f4.offset=3)
 (w:World)(a b c d e f g h:Int):
 (Op.equalIn 10000 t (.agg #[a,b,c,d]) (.agg #[e,f,g,h])).run Go.Proofs.Tryz.prog w=.ok (a==e&&b==f&&c==g&&d==h) w:=by
 rw[adK w 9999 t _ _ i j];obtain⟨f1,f2,f3,f4,l,m,n,o,p,t1,t2,t3,t4,q,r,s,u⟩:=k;have v:∀(a b c d:Int) (w:World),(part 2 #[.int .i64 a,.int .i64 b,.int .i64 c,.int .i64 d] 0).run Go.Proofs.Tryz.prog w=.ok (.int .i64 a) w:=fun a b c d w=>rfl;have x:∀(a b c d:Int) (w:World),(part 2 #[.int .i64 a,.int .i64 b,.int .i64 c,.int .i64 d] 1).run Go.Proofs.Tryz.prog w=.ok (.int .i64 b) w:=fun a b c d w=>rfl;have y:∀(a b c d:Int) (w:World),(part 2 #[.int .i64 a,.int .i64 b,.int .i64 c,.int .i64 d] 2).run Go.Proofs.Tryz.prog w=.ok (.int .i64 c) w:=fun a b c d w=>rfl;have z:∀(a b c d:Int) (w:World),(part 2 #[.int .i64 a,.int .i64 b,.int .i64 c,.int .i64 d] 3).run Go.Proofs.Tryz.prog w=.ok (.int .i64 d) w:=fun a b c d w=>rfl;have A:Go.Proofs.Tryz.prog.underlying 2=some (.int .i64):=rfl;rw[l];simp only[Op.eqFields,aS m,if_pos n,if_pos o,if_pos p,t1,t2,t3,t4,q,r,s,u,Sem.run_bind,v,x,y,z,Result.andThen_ok,run_equalIn_int w 9998 2 .i64 .i64 _ _ A,Sem.run_ite,cH];cases a==e<;>cases b==f<;>cases c==g<;>cases d==h<;>rfl
def YJ(w:World)(a b c d e f g h:Int):(Op.equalIn 10000 35 (.agg #[a,b,c,d]) (.agg #[e,f,g,h])).run Go.Proofs.Tryz.prog w=.ok (a==e&&b==f&&c==g&&d==h) w:=
 eq4 35 rfl (by decide+kernel) ⟨_,_,_,_,rfl,by decide+kernel,by decide+kernel,by decide+kernel,by decide+kernel,rfl,rfl,rfl,rfl,rfl,rfl,rfl,rfl⟩ w a b c d e f g h
def Vj(w:World)(a b c d e f g h:Int):(Op.equalIn 10000 139 (.agg #[a,b,c,d]) (.agg #[e,f,g,h])).run Go.Proofs.Tryz.prog w=.ok (a==e&&b==f&&c==g&&d==h) w:=
 eq4 139 rfl (by decide+kernel) ⟨_,_,_,_,rfl,by decide+kernel,by decide+kernel,by decide+kernel,by decide+kernel,rfl,rfl,rfl,rfl,rfl,rfl,rfl,rfl⟩ w a b c d e f g h
section
variable[de]
def G0(tab:gI)(t:TypeId)(m k:Operand)(ok:Bool)(a:Operand->Option V)(h:bw)(n:Nat):Option Out:=
 Bool.rec (ob (a m) fun m=>ob (a k) fun k=>Option.rec (zc h n t m k) (fun o=>some o) (xb tab h n t m k)) none ok
def G1(tab:gI)(t:TypeId)(m k x:Operand)(a:Operand->Option V)(h:bw)(n:Nat):Option Out:=
 ob (a m) fun m=>ob (a k) fun k=>ob (a x) fun x=>Option.rec (Ka h n t m k x) (fun o=>some o) (GY tab h n t m k x)
def B7(r:Option Operand)(n:Nat):Option Out:=Option.rec (some ⟨.m n,[(n,some (.map []))],n+1⟩) (fun _=>none) r
section
variable{tab:gI}{h h':bw}{n:Nat}{t:TypeId}{m k v:V}
def G2(f:∀j∈tid m,h j=h' j):xb tab h n t m k=xb tab h' n t m k:=by
 cases m with
 |m j=>
  have:h j=h' j:=f j (by simp[tid]);unfold xb;cases tab t with
  |none=>rfl
  |some c=>
   obtain⟨e,a,b,z⟩:=c;cases e<;>cases k<;>first|rfl|(rename_i d;cases d<;>first|rfl|simp only[this])
 |_=>
  unfold xb;cases tab t with
  |none=>rfl
  |some c=>obtain⟨e,a,b,z⟩:=c;cases e<;>rfl
def G3(a:∀j∈tid m,h j=h' j):zc h n t m k=zc h' n t m k:=by
 unfold zc;cases m with
 |m j=>
  have:h j=h' j:=a j (by simp[tid]);unfold Ei;simp only[this]
 |_=>rfl
def Kb(f:∀j∈tid m,h j=h' j):GY tab h n t m k v=GY tab h' n t m k v:=by
 cases m with
 |m j=>
  have:h j=h' j:=f j (by simp[tid]);unfold GY;cases tab t with
  |none=>rfl
  |some c=>
   obtain⟨e,a,b,z⟩:=c;cases e<;>cases k<;>first|rfl|(rename_i d;cases d<;>first|rfl|simp only[this])
 |_=>
  unfold GY;cases tab t with
  |none=>rfl
  |some c=>obtain⟨e,a,b,z⟩:=c;cases e<;>rfl
def Kc(a:∀j∈tid m,h j=h' j):Ka h n t m k v=Ka h' n t m k v:=by
 unfold Ka;cases m with
 |m j=>
  have:h j=h' j:=a j (by simp[tid]);unfold Ms;simp only[this]
 |_=>rfl
end
def G4{tab:gI}(b:dN Go.Proofs.Tryz.prog tab){t:TypeId}{m k:Operand}{ok:Bool}{f:Operand->Option V}{h:bw}{n:Nat}(a:G0 tab t m k ok f h n=some out):qp Go.Proofs.Tryz.prog (.lookup t m k ok) f h n out:=by
 intro z h' i A g w ρ l p hq B o r;cases ok with
 |true=>cases a
 |false=>
  obtain⟨c,s,a⟩:=bK a;obtain⟨e,C,a⟩:=bK a;have u:∀j∈tid c,h j=h' j:=fun j D=>(A m (by simp[fE]) c s j D).symm;have x:=p m c ((i m (by simp[Op.operands])).trans s);have y:=p k e ((i k (by simp[Op.operands])).trans C);cases d:xb tab h n t c e with
  |some q=>
   rw[d]at a;cases a;rw[G2 u]at d;exact Step.vG (Od b l d x y) (by rw[execOp,r])
  |none=>
   rw[d]at a;have a:zc h n t c e=some out:=a;rw[G3 u]at a;exact Step.vG (Of l a x y) (by rw[execOp,r])
def G5{tab:gI}(b:dN Go.Proofs.Tryz.prog tab){t:TypeId}{m k:Operand}{s:Operand->Option V}{h:bw}{n:Nat}(a:G1 tab t m k x s h n=some out):qp Go.Proofs.Tryz.prog (.mapUpdate t m k x) s h n out:=by
 intro D h' i E g w ρ u l hq F o G;obtain⟨c,y,a⟩:=bK a;obtain⟨p,H,a⟩:=bK a;obtain⟨r,I,a⟩:=bK a;have z:∀j∈tid c,h j=h' j:=fun j J=>(E m (by simp[fE]) c y j J).symm;have A:=l m c ((i m (by simp[Op.operands])).trans y);have B:=l k p ((i k (by simp[Op.operands])).trans H);have C:=l x r ((i x (by simp[Op.operands])).trans I);have fin:(∃d e,(Instr.mapUpdate t (ρ m) (ρ k) (ρ x)).run Go.Proofs.Tryz.prog w=.ok () d/\out.x=.tu []/\Rel e (ft h' out.us) d/\Ext g h' w e (ft h' out.us) d/\∀k,e.U k=true->g.U k=true)->Step Go.Proofs.Tryz.prog g h' w n out ((execOp ρ o).run Go.Proofs.Tryz.prog w):=fun⟨d,e,K,L,M,N,O⟩=>by
  refine⟨undef,d,e,.inr ⟨?_,rfl⟩,?_,M,N,fun k P=>.inl (O k P)⟩
  .rw[execOp,G];simp only[aB,K];rfl
  .rw[L];exact .tu [] [] rfl GL.nil.at_
 cases f:GY tab h n t c p r with
 |some q=>
  rw[f]at a;cases a;rw[Kb z]at f;exact fin (Ru b u f A B C)
 |none=>
  rw[f]at a;have a:Ka h n t c p r=some out:=a;rw[Kc z]at a;exact fin (Rv u a A B C)
def Ej{t:TypeId}{r:Option Operand}{b:Operand->Option V}{h:bw}{n:Nat}(a:B7 r n=some out):qp Go.Proofs.Tryz.prog (.makeMap t r) b h n out:=by
 intro c h' i j g w ρ d l hq e o f;cases r with
 |some _=>cases a
 |none=>cases a;exact Step.vG (GX d hq t) (by rw[execOp,f];rfl)
end
section
variable[de]
def Rw(op:BinOp)(b:Bool):Option V:=match op with
 |.eql=>some (.d (.b b))
 |.neq=>some (.d (.b (Bool.rec true false b)))
 |_=>none
end
section
variable[de]
def Ul(v:V):Option (Int×Int×Int×Int):=match v with
 |.a [.i .i64 a,.i .i64 b,.i .i64 c,.i .i64 d]=>some (a,b,c,d)
 |_=>none
def v4(p:Int×Int×Int×Int):Value:=.agg #[p.1,p.2.1,p.2.2.1,p.2.2.2]
def Rx{p:Int×Int×Int×Int}(h:Ul v=some p){g:Gh}{i:bw}{w:World}{x:Value}(j:GV g i w v x):x=v4 p:=by
 unfold Ul at h;split at h
 .cases h;cases j with
  |a cells k f q e=>
   match k,f,e with
   |[a,b,c,d],f,e=>
    have l:=e 0 _ _ rfl rfl;have m:=e 1 _ _ rfl rfl;have n:=e 2 _ _ rfl rfl;have o:=e 3 _ _ rfl rfl;cases l;cases m;cases n;cases o;rfl
 .cases h
def Bm(p q:Int×Int×Int×Int):Bool:=Bool.rec false (Bool.rec false (Bool.rec false (AZ p.2.2.2 q.2.2.2) (AZ p.2.2.1 q.2.2.1)) (AZ p.2.1 q.2.1)) (AZ p.1 q.1)
def Mu(p q:Int×Int×Int×Int):(p.1==q.1&&p.2.1==q.2.1&&p.2.2.1==q.2.2.1&&p.2.2.2==q.2.2.2)=Bm p q:=by
 unfold Bm;rw[mw,mw,mw,mw];show _=(Bool.rec false (Bool.rec false (Bool.rec false (p.2.2.2==q.2.2.2) (p.2.2.1==q.2.2.1)) (p.2.1==q.2.1)) (p.1==q.1):Bool);cases p.1==q.1<;>cases p.2.1==q.2.1<;>cases p.2.2.1==q.2.2.1<;>cases p.2.2.2==q.2.2.2<;>rfl
def zd(op:BinOp)(t:TypeId)(x y:Operand)(a:Operand->Option V)(n:Nat):Option Out:=Bool.rec (Bool.rec none (ob (a x) fun x=>ob (a y) fun y=>ob (Ul x) fun p=>ob (Ul y) fun q=>ob (Rw op (Bm p q)) fun r=>some (dF n r)) (Nat.beq t 139))
 (ob (a x) fun x=>ob (a y) fun y=>ob (Ul x) fun p=>ob (Ul y) fun q=>ob (Rw op (Bm p q)) fun r=>some (dF n r)) (Nat.beq t 35)
def Og{op:BinOp}{u:TypeId}{y:Operand}{f:Operand->Option V}(a:zd op t x y f n=some out):qp Go.Proofs.Tryz.prog (.binOp op t x y u) f h n out:=by
 have i:∀(t:TypeId),Go.Proofs.Tryz.prog.eqGuardType Go.Proofs.Tryz.prog.depth t=false->(∀(w:World) (p q:Int×Int×Int×Int),(Op.equalIn 10000 t (v4 p) (v4 q)).run Go.Proofs.Tryz.prog w=.ok (Bm p q) w)->
  (ob (f x) fun x=>ob (f y) fun y=>ob (Ul x) fun p=>ob (Ul y) fun q=>ob (Rw op (Bm p q)) fun r=>some (dF n r))=some out->qp Go.Proofs.Tryz.prog (.binOp op t x y u) f h n out:=fun t hgt j a=>by
  intro E M z N g w ρ A B hq F o C;obtain⟨G,H,a⟩:=bK a;obtain⟨I,J,a⟩:=bK a;obtain⟨p,K,a⟩:=bK a;obtain⟨q,L,a⟩:=bK a;obtain⟨r,k,a⟩:=bK a;cases a;have l:=Rx K (B x G ((z x (by simp[Op.operands])).trans H));have m:=Rx L (B y I ((z y (by simp[Op.operands])).trans J));have D:(eqGuard op t x y (ρ x) (ρ y)).run Go.Proofs.Tryz.prog w=.ok () w:=by
   rw[l,m];exact run_eqGuard_agg w op t x y _ _ hgt
  unfold Rw at k;split at k
  .cases k;refine Step.gG (v:=.bool (Bm p q)) (s:=do eqGuard .eql t x y (ρ x) (ρ y);binOp .eql t (ρ x) (ρ y)) A ?_ (.d _ _ (.b _)) (by rw[execOp,C]);simp only[aB,D,Result.andThen_ok];have:=j w p q;rw[l,m];unfold v4 at this|-;rw[run_eql_struct,this];rfl
  .cases k;refine Step.gG (v:=.bool (!(Bm p q))) (s:=do eqGuard .neq t x y (ρ x) (ρ y);binOp .neq t (ρ x) (ρ y)) A ?_ (by cases Bm p q<;>exact .d _ _ (.b _)) (by rw[execOp,C]);simp only[aB,D,Result.andThen_ok];have:=j w p q;rw[l,m];unfold v4 at this|-;rw[run_neq_struct,this];rfl
  .cases k
 unfold zd at a;cases e:Nat.beq t 35 with
 |true=>
  rw[e]at a;have:=a6 e;subst this;exact i 35 (by decide+kernel) (fun w p q=>(YJ w _ _ _ _ _ _ _ _).trans (by rw[Mu])) a
 |false=>
  rw[e]at a;cases c:Nat.beq t 139 with
  |true=>
   rw[c]at a;have:=a6 c;subst this;exact i 139 (by decide+kernel) (fun w p q=>(Vj w _ _ _ _ _ _ _ _).trans (by rw[Mu])) a
  |false=>rw[c]at a;cases a
end
section
variable[de]
def Mw(a:gI)(c:Call)(b:Operand->Option V)(n:Nat):Option Out:=match c with
 |{callee:=.builtin .cap,args:=⟨[x]⟩,argTypes:=⟨t::_⟩}=>match a t with
  |some ⟨.sl _,_,_,_⟩=>ob (b x) fun v=>match v with
   |.d .z=>some (dF n (.d (.i .i64 0)))
   |_=>none
  |_=>none
 |_=>none
def Ry(f:dN Go.Proofs.Tryz.prog b){c:Call}{k:Operand->Option V}(a:Mw b c k n=some out):qp Go.Proofs.Tryz.prog (.call c) k h n out:=by
 intro m G p H g w ρ r u hq y o z;unfold Mw at a;split at a
 .next x t l=>
  split at a
  .next e _ _ _ A=>
   obtain⟨v,B,a⟩:=bK a;split at a
   .cases a;have C:=u x _ ((p x (by simp[Op.operands,Call.operands])).trans B);have D:ρ x=zn:=by
     have:=C.cG;generalize ρ x=q at this;cases this;rfl
    obtain⟨d,E,F,_⟩:=dj (f _ _ A) w;cases d<;>simp[eM]at F;have j:(Builtin.cap_ ⟨t::l⟩ o.type #[ρ x]).run Go.Proofs.Tryz.prog w=.ok (goInt 0) w:=by
     unfold Builtin.cap_;simp only[D];simp[aB,E,Result.andThen]
    exact Step.gG (v:=goInt 0) (s:=Builtin.cap_ ⟨t::l⟩ o.type #[ρ x]) r j (.d _ _ (.i _ _)) (by rw[execOp,z];simp[resolve,invoke,builtin])
   .cases a
  .cases a
 .cases a
def Ke(a:gI)(op:Op)(b:Operand->Option V)(h:bw)(n:Nat):Option Out:=match op with
 |.makeMap _ r=>B7 r n
 |.call c=>Mw a c b n
 |.lookup t m k ok=>G0 a t m k ok b h n
 |.mapUpdate t m k x=>G1 a t m k x b h n
 |.binOp op t x y _=>zd op t x y b n
 |_=>none
def Mx{c:gI}(a:dN Go.Proofs.Tryz.prog c):qz Go.Proofs.Tryz.prog (Ke c):=by
 intro op d h n out b;unfold Ke at b;split at b
 .exact Ej b
 .exact Ry a b
 .exact G4 a b
 .exact G5 a b
 .exact Og b
 .cases b
def Oh{op:BinOp}{y:Operand}{e:Operand->Option V}(a:zd op t x y e n=some out):out.us=[]:=by
 have c:(ob (e x) fun x=>ob (e y) fun y=>ob (Ul x) fun p=>ob (Ul y) fun q=>ob (Rw op (Bm p q)) fun r=>some (dF n r))=some out->out.us=[]:=fun a=>by
  obtain⟨_,_,a⟩:=bK a;obtain⟨_,_,a⟩:=bK a;obtain⟨_,_,a⟩:=bK a;obtain⟨_,_,a⟩:=bK a;obtain⟨_,_,a⟩:=bK a;cases a;rfl
 unfold zd at a;cases d:Nat.beq t 35 with
 |true=>rw[d]at a;exact c a
 |false=>
  rw[d]at a;cases b:Nat.beq t 139 with
  |true=>rw[b]at a;exact c a
  |false=>rw[b]at a;cases a
def Ek(E:En){d:gI}(e:E.ext=Ke d):XR E:=by
 intro op f h n out b a;rw[e]at a;unfold Ke at a;split at a
 .cases b
 .next c=>
  unfold Mw at a;split at a
  .cases b
  .cases a
 .cases b
 .cases b
 .exact Oh a
 .cases a
end
section
variable[de]
def XL:∀l:List D,V.nk 0 (l.map .d)=true
 |[]=>rfl
 |d::l=>by
  show(V.lt 0 (.d d)&&V.nk 0 (l.map .d))=true;rw[XL l];rfl
def PC.nU{args:List D}{r:D}
 (
  H:∀(F:Nat->Nat) (w:World) (E:List Value),(∀b,w.heap.size<=b->F b=0)->E.length=args.length->(∀(i:Nat) d v,args[i]? =some d->E[i]? =some v->RD F w d v)->
  Calls P f E.toArray w fun e I=>∃v,e=.returned v/\Below w.heap.size w I/\∃B:Nat->Nat,(∀b,b<w.heap.size->B b=F b)/\(∀b,I.heap.size<=b->B b=0)/\RD B I r v):
 PC P f (args.map .d) (.d r):=by
 refine⟨XL _,rfl,?_⟩;intro g w E J W T;refine(H g.F w E J.fresh (by rw[T.len,List.length_map]) (fun i d v O X=>?_)).mono fun e I ⟨v,Y,C,B,f1,f2,Z⟩=>?_
 .exact(T.at_ i (.d d) v (by rw[ai,O];rfl) X).cG
 .have L:jt g.F w B I:=by
   refine⟨fun b=>?_,fun b c t fz V=>?_⟩
   .rcases cD b w.heap.size with j|Q
    .rw[f1 b j];exact ae _
    .rw[J.fresh b Q];exact aM _
   .have j:b<w.heap.size:=(Array.getElem?_eq_some_iff.1 V).1;exact⟨c,t,fz,(C.block b j).trans V,rfl,by rw[f1 b j];exact fP _ _,fun _ _=>rfl⟩
  have R:∀k b,dJ {σ:=g.σ,τ:=g.τ,F:=B,U:=g.U} (fun _=>none) k=some b->False:=fun k b A=>by simp[dJ]at A
  refine⟨v,.d r,fun _=>none,0,{g with F:=B},Y,rfl,.d _ _ Z,⟨fun k sz M A=>(J.lO k sz M A).stay L,fun k k' b O _=>(R k b O).elim,fun b N=>?_,f2,fun k A=>⟨rfl,(J.top k A).2⟩,fun k o N=>by cases N⟩,fun k A=>W k A,?_⟩
  .have j:=J.lt b N;exact bX j C.size
  .exact{
    n:=fun k A=>A
    size:=C.size
    os:=C.os
    tape:=C.tape
    output:=C.output
    stays:=L
    out:=fun b j _=>⟨C.block b j,f1 b j⟩
    own:=fun b N=>.inl N
    sig:=fun _ _=>rfl
    tok:=fun k _ n' S=>by cases S}
def YK(c:Sb)(s:List Sb):Nat->Option Int:=List.rec (fun _=>some (Int.negSucc 0)) (fun x _ ih i=>Option.rec none (fun b=>Bool.rec (ih (Nat.succ i)) (some (Int.ofNat i)) b) (FH x c)) s
def YL(c:Sb)(s:List Sb):Option Int:=YK c s 0
def xY(c:Sb)(u:UInt8)(l:c.ok u):∀(s:List Sb) (b:List UInt8) (i:Nat) (n:Int),SR s b->YK c s i=some n->
 (Lib.indexByte b u= -1/\n= -1)\/(0<=Lib.indexByte b u/\n=i+Lib.indexByte b u)
 |[],b,i,n,d,h=>by
  have:b=[]:=List.eq_nil_of_length_eq_zero (by rw[d.len];rfl);subst this;cases h;exact .inl ⟨rfl,rfl⟩
 |x::s,b,i,n,d,h=>by
  obtain⟨a,b,rfl⟩:∃a t,b=a::t:=by
   cases b with
   |nil=>have:=d.len;simp at this
   |cons a t=>exact⟨a,t,rfl⟩
  have m:=d.at_ 0 x a rfl rfl;have g:SR s b:=⟨by have:=d.len;simpa using this,fun j y v e f=>d.at_ (j+1) y v e f⟩;have h:(Option.rec none (fun b=>Bool.rec (YK c s (i+1)) (some (Int.ofNat i)) b) (FH x c):Option Int)=some n:=h;cases hq:FH x c with
  |none=>rw[hq]at h;cases h
  |some q=>
   rw[hq]at h;have k:=Dv hq m l;unfold Lib.indexByte;rw[k];cases q with
   |true=>cases h;right;simp
   |false=>
    have:=xY c u l s b (i+1) n g h;rcases this with⟨e,f⟩|⟨e,f⟩
    .left;rw[e,f];simp
    .right;have o:(Lib.indexByte b u== -1)=false:=by
      simp;omega
     rw[o];simp;omega
end
section
variable[de]
def kN(k:IntKind):Nat:=IntKind.casesOn k 0 1 2 3 4 5 6 7
def Rz{a b:IntKind}(h:Nat.beq (kN a) (kN b)=true):a=b:=by
 cases a<;>cases b<;>first|rfl|cases h
mutual
def uh:Ex->Ex->Bool
 |.c a,.c b=>AZ a b
 |.v a,.v b=>Nat.beq a b
 |.add a b,.add c d=>uh a c&&uh b d
 |.sub a b,.sub c d=>uh a c&&uh b d
 |.mul a b,.mul c d=>uh a c&&uh b d
 |.div a b,.div c d=>uh a c&&uh b d
 |.mod a b,.mod c d=>uh a c&&uh b d
 |.max a b,.max c d=>uh a c&&uh b d
 |.min a b,.min c d=>uh a c&&uh b d
 |.fn f i l,.fn g j m=>Nat.beq f g&&(Nat.beq i j&&Oj l m)
 |_,_=>false
def Oj:List Ex->List Ex->Bool
 |[],[]=>true
 |a::l,b::m=>uh a b&&Oj l m
 |_,_=>false
end
def ze{a b:Int}(h:AZ a b=true):a=b:=by rw[mw]at h;simpa using h
mutual
def jf:∀{a b:Ex},uh a b=true->a=b
 |.c a,.c b,h=>by rw[ze (show AZ a b=true by simpa[uh]using h)]
 |.v a,.v b,h=>by rw[a6 (show Nat.beq a b=true by simpa[uh]using h)]
 |.add a b,.add c d,h=>by simp only[uh,ax]at h;rw[jf h.1,jf h.2]
 |.sub a b,.sub c d,h=>by simp only[uh,ax]at h;rw[jf h.1,jf h.2]
 |.mul a b,.mul c d,h=>by simp only[uh,ax]at h;rw[jf h.1,jf h.2]
 |.div a b,.div c d,h=>by simp only[uh,ax]at h;rw[jf h.1,jf h.2]
 |.mod a b,.mod c d,h=>by simp only[uh,ax]at h;rw[jf h.1,jf h.2]
 |.max a b,.max c d,h=>by simp only[uh,ax]at h;rw[jf h.1,jf h.2]
 |.min a b,.min c d,h=>by simp only[uh,ax]at h;rw[jf h.1,jf h.2]
 |.fn f i l,.fn g j m,h=>by
  simp only[uh,ax]at h;rw[a6 h.1,Nat.eq_of_beq_eq_true h.2.1,My h.2.2]
def My:∀{l m:List Ex},Oj l m=true->l=m
 |[],[],_=>rfl
 |a::l,b::m,h=>by simp only[Oj,ax]at h;rw[jf h.1,My h.2]
 |[],_::_,h=>by simp[Oj]at h
 |_::_,[],h=>by simp[Oj]at h
end
def eqB:Sb->Sb->Bool
 |.c a,.c b=>Nat.beq a b
 |.x e g h,.x i d f=>uh e i&&(Nat.beq g d&&Nat.beq h f)
 |_,_=>false
def YM:∀{a b:Sb},eqB a b=true->a=b
 |.c a,.c b,h=>by rw[a6 (show Nat.beq a b=true from h)]
 |.x e g i,.x j d f,h=>by
  have h:(uh e j&&(Nat.beq g d&&Nat.beq i f))=true:=h;simp only[ax]at h;rw[jf h.1,Nat.eq_of_beq_eq_true h.2.1,Nat.eq_of_beq_eq_true h.2.2]
 |.c _,.x _ _ _,h=>by cases h
 |.x _ _ _,.c _,h=>by cases h
def YN(a:List Sb):List Sb->Bool:=List.rec (fun b=>List.rec true (fun _ _ _=>false) b) (fun x _ ih b=>List.rec false (fun y r _=>Bool.rec false (ih r) (eqB x y)) b) a
def Mz:∀{a b:List Sb},YN a b=true->a=b
 |[],[],_=>rfl
 |x::a,y::b,h=>by
  have h:(Bool.rec false (YN a b) (eqB x y):Bool)=true:=h;cases hq:eqB x y with
  |false=>rw[hq]at h;cases h
  |true=>rw[hq]at h;rw[YM hq,Mz h]
 |[],_::_,h=>by cases h
 |_::_,[],h=>by cases h
mutual
def Qf:D->D->Bool
 |.i k n,.i a f=>Bool.rec false (AZ n f) (Nat.beq (kN k) (kN a))
 |.x k e g h,.x a m c d=>Nat.beq (kN k) (kN a)&&(uh e m&&(AZ g c&&AZ h d))
 |.b x,.b y=>Yq x y
 |.s x,.s y=>YN x y
 |.z,.z=>true
 |.np,.np=>true
 |.nf,.nf=>true
 |.nm,.nm=>true
 |.o i,.o j=>Nat.beq i j
 |.l s r,.l p q=>Bool.rec false (B8 r q) (Nat.beq s p)
 |_,_=>false
def G6:List D->List D->Bool
 |[],[]=>true
 |a::l,b::m=>Bool.rec false (G6 l m) (Qf a b)
 |_,_=>false
def B8:List (List D)->List (List D)->Bool
 |[],[]=>true
 |a::l,b::m=>Bool.rec false (B8 l m) (G6 a b)
 |_,_=>false
end
def oT{a b:Bool}(h:(Bool.rec false a b:Bool)=true):b=true/\a=true:=by
 cases b with
 |false=>cases h
 |true=>exact⟨rfl,h⟩
mutual
def Kf:∀{a b:D},Qf a b=true->a=b
 |.i k n,.i g t,h=>by unfold Qf at h;obtain⟨c,d⟩:=oT h;rw[Rz c,ze d]
 |.x k e u v,.x g w m p,h=>by
  unfold Qf at h;simp only[ax]at h;rw[Rz h.1,jf h.2.1,ze h.2.2.1,ze h.2.2.2]
 |.b x,.b y,h=>by unfold Qf at h;rw[QW h]
 |.s x,.s y,h=>by unfold Qf at h;rw[Mz h]
 |.z,.z,_=>rfl
 |.np,.np,_=>rfl
 |.nf,.nf,_=>rfl
 |.nm,.nm,_=>rfl
 |.l s r,.l A B,h=>by unfold Qf at h;obtain⟨c,d⟩:=oT h;rw[a6 c,Ha d]
 |.o i,.o j,h=>by rw[a6 (show Nat.beq i j=true by simpa[Qf]using h)]
 |.q ..,b,h=>by cases b<;>simp[Qf]at h
 |.f ..,b,h=>by cases b<;>simp[Qf]at h
def xZ:∀{l m:List D},G6 l m=true->l=m
 |[],[],_=>rfl
 |a::l,b::m,h=>by unfold G6 at h;obtain⟨c,d⟩:=oT h;rw[Kf c,xZ d]
 |[],_::_,h=>by simp[G6]at h
 |_::_,[],h=>by simp[G6]at h
def Ha:∀{l m:List (List D)},B8 l m=true->l=m
 |[],[],_=>rfl
 |a::l,b::m,h=>by unfold B8 at h;obtain⟨c,d⟩:=oT h;rw[xZ c,Ha d]
 |[],_::_,h=>by simp[B8]at h
 |_::_,[],h=>by simp[B8]at h
end
def Vk:V->V->Bool
 |.d x,.d y=>Qf x y
 |.a x,.a y=>G6 x y
 |_,_=>false
def Vl:∀{a b:V},Vk a b=true->a=b:=by
 intro a b h;unfold Vk at h;split at h
 .rw[Kf h]
 .rw[xZ h]
 .cases h
def B9(a:List V):List V->Bool:=List.rec (fun b=>List.rec true (fun _ _ _=>false) b) (fun x _ ih b=>List.rec false (fun y r _=>Bool.rec false (ih r) (Vk x y)) b) a
def ui:∀{a b:List V},B9 a b=true->a=b
 |[],[],_=>rfl
 |x::a,y::b,h=>by
  have h:(Bool.rec false (B9 a b) (Vk x y):Bool)=true:=h;obtain⟨c,d⟩:=oT h;rw[Vl c,ui d]
 |[],_::_,h=>by cases h
 |_::_,[],h=>by cases h
def Hb:V->V->Bool
 |.tu x,.tu y=>B9 x y
 |.d x,.d y=>Qf x y
 |.a x,.a y=>G6 x y
 |_,_=>false
def MA:∀{a b:V},Hb a b=true->a=b:=by
 intro a b h;unfold Hb at h;split at h
 .rw[ui h]
 .rw[Kf h]
 .rw[xZ h]
 .cases h
def ij(E:En)(k:Nat)(f:FuncId)(args:List V)(y:V):Bool:=
 Option.rec false (fun a=>Bool.rec false (Rs.rec (fun r=>Option.rec false (fun p=>Hb p.1 y) (yI r.2.1 r.1)) (fun _=>false) (runK E k f args [] 0)) (B9 a args)) (iS args)
def RB{E:En}(i:J2 P E)(j:XR E){k:Nat}{args:List V}(h:ij E k f args y=true):fW P f/\PC P f args y:=by
 unfold ij at h;cases b:iS args with
 |none=>rw[b]at h;cases h
 |some a=>
  rw[b]at h;obtain⟨c,h⟩:=oT h;have c:=ui c;subst c;cases d:runK E k f a [] 0 with
  |no e=>rw[d]at h;cases h
  |ok r=>
   rw[d]at h;have h:(Option.rec false (fun p=>Hb p.1 y) (yI r.2.1 r.1):Bool)=true:=h;cases g:yI r.2.1 r.1 with
   |none=>rw[g]at h;cases h
   |some p=>
    rw[g]at h;have h:=MA (show Hb p.1 y=true from h);subst h;exact Mn i j b d (h2:=p.2) g
def pO(a:List V)(y:V)(args:List V):Option V:=Bool.rec none (some y) (B9 args a)
def orc1_ok{a:List V}{args:List V}{r:V}(h:pO a y args=some r):args=a/\r=y:=by
 unfold pO at h;cases hq:B9 args a with
 |false=>rw[hq]at h;cases h
 |true=>rw[hq]at h;cases h;exact⟨ui hq,rfl⟩
end
section
variable[de]
def kS(P:Program)(f:FuncId)(o:List V->Option V):Prop:=∀args r,o args=some r->(fW P f/\PC P f args r)\/wX P f args r
def Om(a b:List V->Option V)(args:List V):Option V:=Option.rec (b args) (fun r=>some r) (a args)
def kS.or{a b:List V->Option V}(j:kS P f a)(A:kS P f b):kS P f (Om a b):=by
 intro args r h;unfold Om at h;cases hq:a args with
 |none=>rw[hq]at h;exact A args r h
 |some x=>rw[hq]at h;cases h;exact j args _ hq
def Kg(l:List (FuncId×(List V->Option V)))(f:FuncId):Option (List V->Option V):=List.rec none (fun p _ ih=>Bool.rec ih (Option.rec (some p.2) (fun g=>some (Om p.2 g)) ih) (Nat.beq f p.1)) l
def MB{P:Program}:∀{l:List (FuncId×(List V->Option V))},(∀p∈l,kS P p.1 p.2)->qv P (Kg l)
 |[],_=>fun f g h=>by cases h
 |p::l,b=>fun f g h=>by
  have h:(Bool.rec (Kg l f) (Option.rec (some p.2) (fun g=>some (Om p.2 g)) (Kg l f)) (Nat.beq f p.1):Option (List V->Option V))=some g:=h;have ih:=MB (P:=P) (l:=l) (fun q hq=>b q (.tail _ hq)) f;cases hq:Nat.beq f p.1 with
  |true=>
   have e:=Nat.eq_of_beq_eq_true hq;subst e;have c:=b p (.head _);rw[hq]at h;cases a:Kg l p.1 with
   |none=>rw[a]at h;cases h;exact c
   |some d=>rw[a]at h;cases h;exact c.or (ih d a)
  |false=>rw[hq]at h;exact ih g h
def kS.one{j:List V}(h:fW P f/\PC P f j y):kS P f (pO j y):=by
 intro args r A;obtain⟨rfl,rfl⟩:=orc1_ok A;exact .inl h
end
section
variable[de]
def GL.two{g:Gh}{w:World}{x:V}{j:List Value}(A:GL g h w [x,y] j):∃a b,j=[a,b]/\GV g h w x a/\GV g h w y b:=by
 have B:=A.len
 match j,B with
 |[a,b],_=>exact⟨a,b,rfl,A.at_ 0 _ _ rfl rfl,A.at_ 1 _ _ rfl rfl⟩
def Kh(args:List V):Option V:=match args with
 |[.d (.s s),.d c]=>ob (BO c) fun c=>ob (YL c s) fun n=>some (.d (.i .i64 n))
 |_=>none
def On:kS tp 247 Kh:=by
 intro args r h;unfold Kh at h;split at h
 .next s c=>
  obtain⟨u,l,h⟩:=bK h;obtain⟨n,m,h⟩:=bK h;cases h;refine .inr ?_;intro g h w y o;obtain⟨a,b,rfl,p,t⟩:=o.two;have v:=p.cG;obtain⟨q,rfl,hq⟩:=FZ l t.cG;cases v with
  |s _ f x=>
   refine⟨n,?_,.d _ _ (.i _ _)⟩;show(callFunc 247 #[f,.int .u8 q]).run tp w=_;rw[FA Tryz.func247 (by kernel_rfl) (by kernel_rfl) (by kernel_rfl) (e:=Extern.BytealgIndexByte.indexByte) (by kernel_rfl),abm];have:Lib.indexByte f.data.toList q.toNat.toUInt8=n:=by
    rcases xY u _ hq s f.data.toList 0 n x m with⟨k,j⟩|⟨k,j⟩
    .exact k.trans j.symm
    .rw[j];simp
   rw[this];rfl
 .cases h
end
section
variable[de]
def mD{α:Type}{a:Option α}{b:Bool}{y:α}(h:(Bool.rec none a b:Option α)=some y):b=true/\a=some y:=by
 cases b with
 |false=>cases h
 |true=>exact⟨rfl,h⟩
def p00:V->Option Nat
 |.p k i j=>Bool.rec none (some k) (Nat.beq (Nat.add i j) 0)
 |_=>none
def Ki{k:Nat}(h:p00 v=some k):v=.p k 0 0:=by
 unfold p00 at h;split at h
 .next c i j=>
  obtain⟨a,b⟩:=mD h;have a:i+j=0:=Nat.eq_of_beq_eq_true a;cases b;rw[show i=0 by omega,show j=0 by omega]
 .cases h
section
variable{P:Program}{tab:gI}
def zf(tab:gI)(t:TypeId)(n:Nat):Option Out:=ob (tab t) fun a=>match a.kind with
 |.arr m e=>ob (tab e) fun b=>Bool.rec none (some ⟨.p n 0 0,[(n,some (.row b.size (chunk b.size m (a.zero.map .d)) false))],n+1⟩) (Nat.beq a.size (Nat.mul m b.size))
 |_=>none
def Hc(f:dN P tab){A:Operand->Option V}(a:zf tab t n=some out):qp P (.alloc t) A h n out:=by
 intro B x I J g w ρ C K hq D o E;unfold zf at a;obtain⟨l,q,a⟩:=bK a;split at a
 .next m e y=>
  obtain⟨c,G,a⟩:=bK a;obtain⟨b,a⟩:=mD a;have b:=Nat.eq_of_beq_eq_true b;cases a;refine Step.vG (s:=Instr.alloc t true (.tuple #[])) ?_ (by rw[execOp,E]);obtain⟨z,r,u,H,v⟩:=ms (f _ _ q) w;have i:GL g x w (l.zero.map .d) z.cells.toList:=rC u;have j:(l.zero.map V.d).length=m*c.size:=by rw[<-i.len,Array.length_toList,v,b];rfl
  have:=DA C hq t (l.zero.map .d) z.cells c.size m m false i (BL _) j (Nat.le_refl _) (fun _=>rfl);refine⟨pt w.heap.size,_,_,?_,?_,this.1,this.2,fun k y=>lm (ae _) (Nat.lt_succ_self _) y⟩
  .unfold Instr.alloc;simp only[aB,r,Result.andThen_ok,newVar,newRow];rfl
  .have:=GV.p (h:=up x n (some (.row c.size (chunk c.size m (l.zero.map .d)) false))) (w:=w.alloc (.cells z.cells t)) (g:={σ:=up g.σ n (some (w.heap.size,c.size)),τ:=g.τ,F:=up g.F w 0,U:=up g.U n true}) n 0 0 w c.size (aR _ _ _) (aR _ _ _);simpa[ft]using this
 .cases a
def zg(tab:gI)(t:TypeId)(a x:Operand)(e:Operand->Option V)(h:bw)(n:Nat):Option Out:=ob (tab t) fun c=>match c.kind with
 |.arr m _=>ob (e a) fun a=>ob (e x) fun x=>ob (p00 a) fun k=>match h k with
  |some (.row sz b d)=>if d=false/\x.FG=true/\x.cells.length=c.size/\b.length*sz=c.size/\b.length=m then some ⟨.tu [],[(k,some (.row sz (chunk sz m x.cells) false))],n⟩else none
  |_=>none
 |_=>none
def He(G:dN P tab){a:Operand}{ev:Operand->Option V}(r:zg tab t a x ev h n=some out):qp P (.store t a x) ev h n out:=by
 intro jp W h1 h2 g w ρ T he hq lw o ho;unfold zg at r;obtain⟨X,Y,r⟩:=bK r;split at r
 .next m e Z=>
  obtain⟨va,a1,r⟩:=bK r;obtain⟨U,a2,r⟩:=bK r;have b1:=he a va ((h1 a (by simp[Op.operands])).trans a1);have hx:=he x U ((h1 x (by simp[Op.operands])).trans a2);have hm:∀j∈tid va,W j=h j:=fun j hj=>h2 a (by simp[fE]) va a1 j hj;obtain⟨k,a3,H⟩:=bK r;cases Ki a3
  .have f:=hm k (by simp[tid]);split at H
   .next sz i8 mp hk=>
    split at H
    .next hc=>
     obtain⟨rfl,am,I,s,C⟩:=hc;cases H;rw[hk]at f;obtain⟨z,hone⟩:=hx.cells am;obtain⟨n6,b,A,p,hρ⟩:=b1.sB;have J:=T.obj k _ f;have a5:=wR T f p;subst a5;cases J with
     |row _ _ _ b' c ct K hb hF pm qr a9 em eq=>
      rw[p]at K;cases K;have D:(ρ x).cells.toList.length=X.size:=by rw[z.len,I]
      have ge:c.toList.length=c.size:=Array.length_toList;have B:c.size=X.size:=by rw[a9 rfl,s]
      have L:=run_storeCells_at (P:=P) b 0 ct (ρ x).cells.toList 0 c w hb (by omega) (fun v hv=>by
       obtain⟨q,hq⟩:=List.getElem?_of_mem hv;have M:=(List.getElem?_eq_some_iff.1 hq).1;have N:=List.getElem?_eq_getElem (l:=U.cells) (i:=q) (by rw[<-z.len];exact M);exact(z.at_ q _ v N hq).one (hone _ (List.mem_of_getElem? N)))
      have g7:c.toList.take (0+0)++(ρ x).cells.toList++c.toList.drop (0+0+(ρ x).cells.toList.length)=(ρ x).cells.toList:=by
       rw[D,<-B,<-ge];simp
      rw[g7]at L;have d:(ρ x).cells.toList.length=c.size:=by rw[D,B]
      have O:At w (w.setRow b (ρ x).cells.toList.toArray) b:=⟨rfl,rfl,rfl,setRow_size _ _ _,fun y hy=>setRow_other w b y _ hy⟩;have Q:=setRow_heap w b c (ρ x).cells.toList.toArray ct (0,0) hb;have E:=Dm (h':=up W k (some (.row A (chunk A m U.cells) false))) T p (by rw[f];simp) (fun n=>by rw[f];simp) hb hF O Q (by simpa using d) (fun q hq=>bI _ _ _ hq) (fun n=>by rw[aR];simp);have g8:U.cells.length=m*A:=by rw[I,<-s,C]
      refine⟨undef,w.setRow b (ρ x).cells.toList.toArray,g,.inr ⟨?_,rfl⟩,.tu [] [] rfl GL.nil.at_,?_,E,fun k hk=>.inl hk⟩
      .rw[execOp,ho];have R:ρ a=pt b:=by rw[hρ];simp
       have b1:(Instr.storeAt t (ρ a) (ρ x)).run P w=.ok () (w.setRow b (ρ x).cells.toList.toArray):=by
        rw[R];unfold Instr.storeAt;have F:(Instr.sureAddr (pt b)).run P w=.ok b w:=rfl;simp only[aB,F,Result.andThen_ok];unfold storeVar;have S:¬(ρ x).cells.size≠X.size:=by rw[aH]at D;omega
        simp only[aB,fq (G _ _ Y),Result.andThen_ok,aI S];exact L
       simp only[aB,b1];rfl
      .refine rp T p f (fun n=>by simp) (fun n=>by simp) O E ?_;refine .row A _ false b _ ct p Q hF (rE g8) ?_ ?_ ?_ ?_
       .rw[fF];simp only[bj];rw[d,B,<-s,C];exact ae _
       .intro _;rw[fF];simp only[bj];rw[d,B,<-s,C]
       .intro r' ii y hy;exact hone y (vE ii hy)
       .intro i' r' j' y u io ip hu;rw[cK]at hu;exact(z.at_ _ y u (kO io ip).1 hu).ext E
    .cases H
   .cases H
 .cases r
def uj(tab:gI)(t:TypeId)(x i:Operand)(a:Operand->Option V)(h:bw)(n:Nat):Option Out:=ob (tab t) fun b=>match b.kind with
 |.arr m e=>ob (tab e) fun c=>ob (a x) fun x=>ob (a i) fun i=>ob (p00 x) fun k=>match i with
  |.d (.i _ i)=>match h k with
   |some (.row sz _ _)=>if(0<=i/\i<m)/\c.size=sz then some (dF n (.p k i.toNat 0))else none
   |_=>none
  |_=>none
 |_=>none
def Hf(c:dN P tab){i:Operand}{I:Operand->Option V}(a:uj tab t x i I h n=some out):qp P (.indexAddr t x i) I h n out:=by
 intro Q R J S g w ρ K L hq T o U;unfold uj at a;obtain⟨ti,A,a⟩:=bK a;split at a
 .next m e f=>
  obtain⟨W,B,a⟩:=bK a;obtain⟨C,M,a⟩:=bK a;obtain⟨X,Y,a⟩:=bK a;have Z:=L x C ((J x (by simp[Op.operands])).trans M);have b2:=L i X ((J i (by simp[Op.operands])).trans Y);have hm:∀j∈tid C,R j=h j:=fun j hj=>S x (by simp[fE]) C M j hj;obtain⟨k,a3,l⟩:=bK a;cases Ki a3;split at l
  .next kd D=>
   have u:=hm k (by simp[tid]);split at l
   .next sz N am hk=>
    split at l
    .next O=>
     cases l;rw[hk]at u;obtain⟨E,b,F,y,G⟩:=Z.sB;have H:=wR K u y;subst H;obtain⟨d,hd,r,a5⟩:=dj (c _ _ A) w;rw[f]at r;cases d<;>simp[eM]at r;obtain⟨e1,e2⟩:=r;subst e1 e2;have hi:ρ i=.int kd D:=by
      have:=b2.cG;generalize ρ i=q at this;cases this;rfl
     have z:ρ x=pt b:=by rw[G];simp
     refine Step.gG (s:=Instr.indexAt t (ρ x) (ρ i)) (v:=.pointer (b,D.toNat*W.size)) K ?_ ?_ (by rw[execOp,U])
     .rw[z,hi];unfold Instr.indexAt;simp only[aB,asIntOf,cH,aq,hd,Instr.sureAddr,aS O.1,fq (c _ _ B),add_mid,bc]
     .rw[O.2];exact .p k D.toNat 0 b F E y
    .cases l
   .cases l
  .cases l
 .cases a
def uk(tab:gI)(t:TypeId)(x:Operand)(b c:Option Operand)(d:Operand->Option V)(h:bw)(n:Nat):Option Out:=ob (tab t) fun f=>match f.kind with
 |.arr m e=>ob (tab e) fun g=>ob (d x) fun x=>ob (Gd d b) fun b=>ob (Gd d c) fun c=>ob (p00 x) fun k=>match h k with
  |some (.row sz a _)=>ob (qa b 0) fun l=>ob (qa c m) fun u=>if((0<=l/\l<=u/\u<=m)/\l<m)/\g.size=sz/\a.length=m then some (dF n (.v k l.toNat (u.toNat-l.toNat)))else none
  |_=>none
 |_=>none
def Hg(i:dN P tab){A B:Option Operand}{ev:Operand->Option V}(a:uk tab t x A B ev h n=some out):qp P (.slice t x A B none) ev h n out:=by
 intro C h' H h2 g w ρ I J hq a5 o ho;unfold uk at a;obtain⟨ti,K,a⟩:=bK a;split at a
 .next m e p=>
  obtain⟨te,L,a⟩:=bK a;obtain⟨M,a1,a⟩:=bK a;obtain⟨vl,a2,a⟩:=bK a;obtain⟨vh,a3,a⟩:=bK a;have b1:=J x M ((H x (by simp[Op.operands])).trans a1);have r2:Gd C A=some vl:=by
   rw[<-a2];cases A with
   |none=>rfl
   |some y=>simp only[Gd];rw[H y (by simp[Op.operands])]
  have r3:Gd C B=some vh:=by
   rw[<-a3];cases B with
   |none=>rfl
   |some y=>simp only[Gd];rw[H y (by simp[Op.operands])]
  have hm:∀j∈tid M,h' j=h j:=fun j hj=>h2 x (by simp[fE]) M a1 j hj;obtain⟨k,a4,f⟩:=bK a;cases Ki a4
  .have q:=hm k (by simp[tid]);split at f
   .next sz D a9 hk=>
    obtain⟨l,c1,f⟩:=bK f;obtain⟨u,c2,f⟩:=bK f;split at f
    .next hc=>
     cases f;rw[hk]at q;obtain⟨⟨N,em⟩,O,Q⟩:=hc;obtain⟨R,b,S,r,T⟩:=b1.sB;have E:=I.obj k _ q;have U:=wR I q r;subst U;obtain⟨d,hd,z,eq⟩:=dj (i _ _ K) w;rw[p]at z;cases d<;>simp[eM]at z;obtain⟨e1,e2⟩:=z;rw[e1,e2]at hd;have F:ρ x=pt b:=by rw[T];simp
     have W:¬m=l.toNat:=by omega
     refine Step.gG (s:=Instr.sliceAt t (ρ x) (A.map ρ) (B.map ρ) none) (v:=(b,l.toNat*te.size,u.toNat-l.toNat,m-l.toNat)) I ?_ ?_ (by rw[execOp,ho];rfl)
     .rw[F];have X:=sQ (P:=P) (w:=w) c1 c2 N (Nat.le_refl _) false (DG J r2) (DG J r3);unfold Instr.sliceAt;simp only[aB,hd,Result.andThen_ok,Instr.sureAddr,cH,X,fq (i _ _ L),if_neg W,add_mid,bc]
     .cases E with
      |nilvec _ _=>simp at Q;omega
      |row _ _ _ b' c ct G X hF ge Y g7 Z am=>
       rw[r]at G;cases G;have:=GV.v (g:=g) (h:=h') (w:=w) k l.toNat (u.toNat-l.toNat) b S (m-l.toNat) c ct (0,0) R r X (by
        have:l.toNat+(m-l.toNat)=D.length:=by omega
        rw[this];exact Y) (by omega)
       rw[O];exact this
    .cases f
   .cases f
 .cases a
end
end
section
variable[de]
def RC(b:gI)(op:Op)(c:Operand->Option V)(h:bw)(n:Nat):Option Out:=match op with
 |.alloc t=>zf b t n
 |.store t a x=>zg b t a x c h n
 |.indexAddr t x i=>uj b t x i c h n
 |.slice t x d e none=>uk b t x d e c h n
 |op=>Ke b op c h n
def Vm{c:gI}(a:dN Go.Proofs.Tryz.prog c):qz Go.Proofs.Tryz.prog (RC c):=by
 intro op d h n out b;unfold RC at b;split at b
 .exact Hc a b
 .exact He a b
 .exact Hf a b
 .exact Hg a b
 .exact Mx a _ d h n out b
def Vn(E:En)(d:E.ext=RC b):XR E:=by
 intro op e h n out c a;rw[d]at a;unfold RC at a;split at a
 .cases c
 .cases c
 .unfold uj at a;obtain⟨_,_,a⟩:=bK a;split at a
  .obtain⟨_,_,a⟩:=bK a;obtain⟨_,_,a⟩:=bK a;obtain⟨_,_,a⟩:=bK a;obtain⟨_,_,a⟩:=bK a;split at a
   .split at a
    .split at a
     .cases a;rfl
     .cases a
    .cases a
   .cases a
  .cases a
 .unfold uk at a;obtain⟨_,_,a⟩:=bK a;split at a
  .obtain⟨_,_,a⟩:=bK a;obtain⟨_,_,a⟩:=bK a;obtain⟨_,_,a⟩:=bK a;obtain⟨_,_,a⟩:=bK a;obtain⟨_,_,a⟩:=bK a;split at a
   .obtain⟨_,_,a⟩:=bK a;obtain⟨_,_,a⟩:=bK a;split at a
    .cases a;rfl
    .cases a
   .cases a
  .cases a
 .exact Ek {E with ext:=Ke b} rfl _ e h n out c a
def Kj(b:gI)(a:TypeId):gI:=fun t=>Bool.rec (b t) none (Nat.beq t a)
def Oo{a:TypeId}(h:dN P b):dN P (Kj b a):=by
 intro t d c;unfold Kj at c;cases hq:Nat.beq t a with
 |true=>rw[hq]at c;cases c
 |false=>rw[hq]at c;exact h t d c
