/- part of topCells.proved -/
import Derived.Test.YtkkiefcapbddkaaGreatDoorWm
set_option linter.all false
set_option maxRecDepth 1000000
set_option maxHeartbeats 0
noncomputable section
namespace Go.Abs
open Go.RowKit Go.Proofs YtkkiefcapbddkaaGreatDoor Mem ep Ord
variable{q:Bc}{B g:Nat}{S:Nat->Prop}{a b w:World}
structure Ah(S:Nat->Prop)(w w':World):Prop where
 os:w'.os=w.os
 tape:w'.tape=w.tape
 output:w'.output=w.output
 size:w.heap.size<=w'.heap.size
 block:∀k,k<w.heap.size->¬S k->w'.heap[k]? =w.heap[k]?
def Ah.refl(S:Nat->Prop)(w:World):Ah S w w:=⟨rfl,rfl,rfl,ae _,fun _ _ _=>rfl⟩
def Ah.trans{S:Nat->Prop}{a b c:World}(h:Ah S a b)(k:Ah S b c):Ah S a c:=
 ⟨k.os.trans h.os,k.tape.trans h.tape,k.output.trans h.output,Nat.le_trans h.size k.size,fun i j A=>(k.block i (Nat.lt_of_lt_of_le j h.size) A).trans (h.block i j A)⟩
def Ah.mono{j:Nat->Prop}(h:Ah S a b)(A:∀k,S k->j k):Ah j a b:=⟨h.os,h.tape,h.output,h.size,fun i B C=>h.block i B (fun D=>C (A i D))⟩
def Ah.nU(h:Below a a b):Ah S a b:=⟨h.os,h.tape,h.output,h.size,fun i j _=>h.block i j⟩
def Ah.S0(h:fp g a b)(j:S g):Ah S a b:=⟨h.os,h.tape,h.output,by rw[h.size];exact ae _,fun i _ A=>h.other i (fun e=>A (e▸j))⟩
def Ah.below(h:Ah S a b)(C:B<=a.heap.size)(j:∀k,S k->B<=k):Below B a b:=⟨h.os,h.tape,h.output,h.size,fun k D=>h.block k (by omega) (fun A=>by have:=j k A;omega)⟩
def Ah.dJ(h:Ah S a b){t:TypeId}{j:Array Value}(A:aE a g t j)(B:¬S g):aE b g t j:=(h.block g A.lt B).trans A
def IB{n c sz:Nat}{e:TypeId}{A:Option Addr}{d:List Value}(h:w.ownsRow B e sz (.slice A n c) n d)(y:0<n):
 ∃g spare,A=some ⟨g,0,none⟩/\B<=g/\aE w g e (d++spare).toArray/\∀(i:World) (f:List Value),f.length=d.length->aE i g e (f++spare).toArray->i.ownsRow B e sz (.slice (some ⟨g,0,none⟩) n c) n f:=by
 have l:=h.1;rcases h.2 with⟨m,z⟩|⟨g,cap,a,m,o,q,r,s,C,t⟩
 .omega
 .injection m with u D v;subst u v;have b:a.toList=d++a.toList.drop (n*sz):=by
   conv=>lhs;rw[<-fV (n*sz) a.toList]
   rw[t]
  have j:a=(d++a.toList.drop (n*sz)).toArray:=by rw[<-b]
  refine⟨g,a.toList.drop (n*sz),rfl,o,by rw[<-j];exact q,fun i f p x=>⟨by rw[p,l],.inr ⟨g,c,_,rfl,o,x,r,s,?_,?_⟩⟩⟩
  .have k:a.size=(d++a.toList.drop (n*sz)).length:=by rw[<-b];simp
   simp only[bj,aO]at k|-;omega
  .show(f++a.toList.drop (n*sz)).take (n*sz)=f;rw[xq (by rw[p,l])]
mutual
def Bt.size:Bt->Nat
 |.mk _ _ _ _ _ j=>1+Bt.gC j
def Bt.gC:List Bt->Nat
 |[]=>0
 |k::r=>k.size+Bt.gC r
end
mutual
def BE(n:Nat):Bt->Prop
 |.mk _ _ b _ _ a=>b=n/\mN (n+1) a
def mN(n:Nat):List Bt->Prop
 |[]=>True
 |k::r=>BE n k/\mN (n+k.size) r
end
def IC:∀{a:List Bt} {n i:Nat} {t:Bt},mN n a->a[i]? =some t->BE (n+Bt.gC (a.take i)) t
 |[],n,i,t,h,b=>by simp at b
 |x::a,n,0,t,h,b=>by
  cases b;unfold mN at h;simpa[Bt.gC]using h.1
 |x::a,n,i+1,t,h,b=>by
  unfold mN at h;have:=IC h.2 (by simpa using b);rw[lh];unfold Bt.gC;rw[<-cZ];exact this
def we:∀(a b:List Bt),Bt.gC (a++b)=Bt.gC a+Bt.gC b
 |[],b=>by simp[Bt.gC]
 |x::a,b=>by
  simp only[et,Bt.gC,we a b];omega
def ey.split{R:Nat->Nat->Bc->Bt->Prop}{A j:Nat}{B:List Bc}{x:Bt}{C:List Bt}(h:ey R A j (q::B) (x::C)):∃a m,A<=a/\a<=m/\m<=j/\R a m q x/\ey R m j B C:=h
def Zy{o:Nat}{c:TypeId}{a b:List Value}(h:aE w g c (a++(q.cells++b)).toArray)(f:a.length=o)(k:Int):
 w.cell? (g,o+2)=q.ix/\aE (w.setCell (g,o+2) k) g c (a++(({q with ix:=k}:Bc).cells++b)).toArray:=by
 subst f;refine⟨?_,?_⟩
 .rw[h.cell];simp[ay,Bc.cells]
 .have d:=h.put (a.length+2) k;have e:(a++(q.cells++b)).toArray.setIfInBounds (a.length+2) k=(a++(({q with ix:=k}:Bc).cells++b)).toArray:=by
   rw[fK]
   congr 1
   rw[iw _ _ (by omega),fC];rfl
  rw[e]at d;exact d
def E3{o:Nat}{c:TypeId}{a b:List Value}(h:aE w g c (a++(q.cells++b)).toArray)(d:a.length=o)(hq:q.Ok):w.cell? (g,o+56)=some q.kv:=by
 subst d;rw[h.cell];have f:=Bc.len hq.sty;have e:=Bc.l7 hq.sty;rw[cK,ay (by omega),fC,an (by omega)];simpa[Bc.arr]using e
def Zz{a b:List Bc}(c:List Value):(a++q::b).flatMap Bc.cells++c=a.flatMap Bc.cells++(q.cells++(b.flatMap Bc.cells++c)):=by
 simp[bC]
def WJ{dn td:List Bc}(a:List Value):((dn++[q])++td).flatMap Bc.cells++a=dn.flatMap Bc.cells++(q.cells++(td.flatMap Bc.cells++a)):=by
 simp[bC]
def CP:∀l:List Bt,l.length<=Bt.gC l
 |[]=>Nat.zero_le _
 |x::l=>by
  have h:=CP l;cases x with
  |mk a b c d e f=>simp only[aW,Bt.gC,Bt.size];omega
def xh{gn gm:Nat}:∀(d:Nat) (t:Bt) (q:Bc) (I P n g o:Nat) (ty:TypeId) (J p:List Value) (w:World),gM w false d I P q t->BE n t->n+t.size<=5000->aE w g ty (J++(q.cells++p)).toArray->J.length=o->(g<I\/P<=g)->P<=w.heap.size->(gn<I\/P<=gn)->(gm<I\/P<=gm)->gn≠g->gm≠g->gm≠gn->
 aE w gn 3 #[n]->aE w gm 132 #[.func (.func 53) #[] #[pt gn,pt gm]]->
 Calls tp 53 #[.pointer (g,o),pt gn,pt gm] w
  fun e X=>e=rQ/\Ah (fun k=>k=g\/k=gn\/(I<=k/\k<P)) w X/\∃q',gM X true d I P q' t/\aE X g ty (J++(q'.cells++p)).toArray/\aE X gn 3 #[.int .i64 ((n+t.size:Nat):Int)]
 |0,t,q,I,P,n,g,o,ty,J,p,w,hB,hN,hn,hg,ho,hgo,hhi,h1,h2,h3,h4,h5,Y,wn=>hB.elim
 |d+1,.mk kind node ix sty text f,q,I,P,n,g,o,ty,J,p,w,hB,hN,hn,hg,ho,hgo,hhi,h1,h2,h3,h4,h5,Y,wn=>by
  have ih:=xh (gn:=gn) (gm:=gm) d;obtain⟨e1,e2,e3,e4,e5,ww,qs,m,hA,hm,r,Do,am,u⟩:=hB;unfold BE at hN;obtain⟨i8,jp⟩:=hN;unfold Bt.size at hn|-;have z:qs.length=f.length:=hA.len;have hmle:=hA.le;have hkln:=CP f;obtain⟨F,og,ck,sp,G,L,lw,H1,l,B⟩:∃F og ck sp,(0<f.length->q.kv=.slice (some ⟨F,og,none⟩) f.length ck)/\(0<f.length->m<=F/\F<P)/\og=0/\(0<f.length->f.length<=ck)/\
   (0<f.length->aE w F 66 (qs.flatMap Bc.cells++sp).toArray)/\(0<f.length->∀(X:World) (ys:List Value),ys.length=(qs.flatMap Bc.cells).length->aE X F 66 (ys++sp).toArray->X.ownsRow m 66 57 q.kv f.length ys):=by
   by_cases Q:0<f.length
   .obtain⟨A,c,hv,hc⟩:=aV r;rw[hv,z]at r;obtain⟨F,sp,rfl,q1,q2,q3⟩:=IB r Q;refine⟨F,0,c,sp,fun _=>by rw[hv,z],fun _=>⟨q1,?_⟩,rfl,fun _=>by omega,fun _=>q2,fun _ X ys y1 y2=>by rw[hv,z];exact q3 X ys y1 y2⟩;exact Do F (by rw[hv];rfl)
   .exact⟨0,0,0,[],fun h=>absurd h Q,fun h=>absurd h Q,rfl,fun h=>absurd h Q,fun h=>absurd h Q,fun h=>absurd h Q⟩
  replace lw:=aU lw;replace e1:=aU e1;replace e2:=aU e2;replace e3:=aU e3;replace e4:=aU e4;replace e5:=aU e5;replace i8:=aU i8;replace z:=aU z;obtain⟨c2,In⟩:=Zy hg ho (n:Int);have f2:=hg.free (o+2);have c0:=Y.cell 0;have f0:=Y.free 0;have T:=fp.setCell w (g,o+2) n;have a5:=Y.dA T (by simpa using h3);have UV:=wn.dA T (by simpa using h4);have c0':=a5.cell 0;have f0':=a5.free 0;have C:(n:Int)+1=((n+1:Nat):Int):=by omega
  replace C:=aU C;replace hA:=aU hA;replace am:=aU am;replace l:=aU l;replace B:=aU B;replace G:=aU G;replace L:=aU L;replace H1:=aU H1;replace jp:=aU jp;replace u:=aU u;go_enter Tryz.func53,Tryz.ntmps53
  go_upto_region 2 with fail
  rw[C.out];have U:=fp.setCell (w.setCell (g,o+2) n) gn (.int .i64 ((n+1:Nat):Int));have mp:=In.dA U (by simpa using Ne.symm h3);have WF:=UV.dA U (by simpa using h5);have WP:aE ((w.setCell (g,o+2) n).setCell gn (.int .i64 ((n+1:Nat):Int))) gn 3 #[.int .i64 ((n+1:Nat):Int)]:=a5.put 0 _;have hS2:Ah (fun k=>k=g\/k=gn\/(I<=k/\k<P)) w ((w.setCell (g,o+2) n).setCell gn (.int .i64 ((n+1:Nat):Int))):=(Ah.S0 T (.inl rfl)).trans (Ah.S0 U (.inr (.inl rfl)));have hsz:((w.setCell (g,o+2) n).setCell gn (.int .i64 ((n+1:Nat):Int))).heap.size=w.heap.size:=by simp[World.setCell]
  have D:∀k,k≠g->k≠gn->((w.setCell (g,o+2) n).setCell gn (.int .i64 ((n+1:Nat):Int))).heap[k]? =w.heap[k]? :=fun k k1 k2=>(U.other k (by simpa using k2)).trans (T.other k (by simpa using k1));generalize (w.setCell (g,o+2) n).setCell gn (.int .i64 ((n+1:Nat):Int))=w2 at*;have a9:=hA.out.imp (fun a m' q' x a0 a1 a2=>a2.same (fun b b1 b2=>D b (by omega) (by omega)));have H:0<f.length->aE w2 F 66 (qs.flatMap Bc.cells++sp).toArray:=fun h=>(D F (by have:=L.out h;omega) (by have:=L.out h;omega)).trans (l.out h);have v:({q with ix:=(n:Int)}:Bc).Ok:=⟨ww.sty,ww.one⟩;clear l In a5 UV T U c0 c0' f0 f0' f2 c2 D hA;replace a9:=aU a9;replace H:=aU H;have n6:=E3 (q:={q with ix:=(n:Int)}) mp ho v;obtain⟨Ak,cc,j⟩:∃Ak cc,q.kv=.slice Ak f.length cc:=by
   obtain⟨A,c,hv,hc⟩:=aV r;exact⟨A,c,by rw[hv,z.out]⟩
  rw[j]at n6;replace j:=aU j;clear r Do;go_wp2_with fail
  go_loopw [16] (fun s wr=>∃(i a:Nat) (R td:List Bc),i<=f.length/\s=i/\Hid (R.length=i)/\ey (gM wr true d) I a R (f.take i)/\ey (gM wr false d) a m td (f.drop i)/\(0<f.length->aE wr F 66 ((R++td).flatMap Bc.cells++sp).toArray)/\(∀x∈R,x.Ok)/\(∀x∈td,x.Ok)/\
   aE wr g ty (J++(({q with ix:=(n:Int)}:Bc).cells++p)).toArray/\aE wr gn 3 #[.int .i64 ((n+1+Bt.gC (f.take i):Nat):Int)]/\aE wr gm 132 #[.func (.func 53) #[] #[pt gn,pt gm]]/\Ah (fun k=>k=g\/k=gn\/(I<=k/\k<P)) w wr) (fun s _=>f.length-(intOf s).toNat)
  case atStart=>exact⟨0,I,[],qs,Nat.zero_le _,rfl,aU rfl,Nat.le_refl I,a9.out,H.out,(fun x hx=>by cases hx),am.out,mp,WP,WF,hS2⟩
  case round=>
   clear mp WP WF hS2 n6 a9 H hsz;obtain⟨i,a,R,td,hi1,rfl,V,hD,hT,em,M,pm,eq,qr,ge,rg⟩:=hrel;have n6:wr.cell? (g,o+56)=some (.slice Ak f.length cc):=(E3 (q:={q with ix:=(n:Int)}) eq ho v).trans (by rw[<-j.out]);have kgm:wr.cell? gm=some (.func (.func 53) #[] #[pt gn,pt gm]):=ge.cell 0;have hsr:=rg.size;have hla:=hD.le;replace hD:=aU hD;replace em:=aU em;replace M:=aU M;replace pm:=aU pm;by_cases hlt:i<f.length
   .have hd1:=lJ i f.length (by omega);have ii:=G.out (by omega);rw[j.out]at ii;injection ii with z1 z2 z3;subst z1 z3;have hgk':=L.out (by omega);obtain⟨t1,N⟩:∃t1,f[i]? =some t1:=⟨_,List.getElem?_eq_getElem hlt⟩;have hdr:f.drop i=t1::f.drop (i+1):=by
     obtain⟨h,e⟩:=List.getElem?_eq_some_iff.1 N;rw[bQ h,e]
    rw[hdr]at hT;obtain⟨q1,E,rfl⟩:∃q1 E,td=q1::E:=by
     cases td with
     |nil=>exact hT.elim
     |cons q1 E=>exact⟨q1,E,rfl⟩
    obtain⟨a1,m1,i1,i2,i3,hq1,un⟩:=ey.split hT;have hNt:=IC jp.out N;have hsz1:Bt.gC (f.take (i+1))=Bt.gC (f.take i)+t1.size:=by
     rw[bJ,N,we];simp[Bt.gC]
    have hsz2:Bt.gC (f.take (i+1))<=Bt.gC f:=by
     conv=>rhs;rw[<-fV (i+1) f,we]
     omega
    have ut:=em.out (by omega);rw[Zz]at ut;have hpl:(R.flatMap Bc.cells).length=og+i*57:=by rw[ky M.out,V.out,lw.out];omega
    have hkid:=ih t1 q1 a1 m1 (n+1+Bt.gC (f.take i)) F (og+i*57) 66 (R.flatMap Bc.cells) (E.flatMap Bc.cells++sp) wr.drew (gM.same (w:=wr) (w':=wr.drew) (fun b _ _=>show wr.drew.heap[b]? =wr.heap[b]? from rfl) hq1) hNt (by omega) ut.drew hpl (by omega) (show m1<=wr.heap.size by omega) (by omega) (by omega) (by omega) (by omega) h5 qr.drew ge.drew;replace hT:=trivial;replace un:=aU un;replace hdr:=trivial;replace hNt:=trivial;replace ut:=trivial;replace N:=aU N;go_upto_region 5 with fail
    refine a8 ?_;refine dW (S:=fun Z:World=>Z.cell? gm=some (.func (.func 53) #[] #[pt gn,pt gm])/\Z.cell? (g,o+56)=(F,og,f.length,cc)) 999 [1,1,1,1,1,1,1,0] (by kernel_rfl) (fun _ _ _ _ _ h=>h) (⟨ge.drew.cell 0,(E3 (q:={q with ix:=(n:Int)}) eq.drew ho v).trans (by rw[<-j.out])⟩) (fun hS0=>?_);simp only[osq,fL,aF,ap];iterate 7 (apply cU;rfl;(intro w hSw;go_simp;try(with_reducible rfl));simp only[Act.put,zA,zB,zC])
    refine cC rfl rfl (fun K hK=>?_);go_simp
    refine hkid.mono ?_;rintro e w4 ⟨rfl,wl,q1',io,hb4,hn4⟩;have hg4:=wl.dJ eq.drew (fun hk=>by rcases hk with h|h|h<;>omega);have hm4:=wl.dJ ge.drew (fun hk=>by rcases hk with h|h|h<;>omega);refine hK.out _ _ (⟨hm4.cell 0,(E3 (q:={q with ix:=(n:Int)}) hg4 ho v).trans (by rw[<-j.out])⟩) (fun _=>?_);clear hK K;refine fA (a7 ?_);have W:=(Ah.nU (Below.refl _ wr).drew).trans wl;go_wp2_with fail
    go_roundw
    case rel=>
     refine⟨i+1,by omega,by go_num,m1,R++[q1'],aU (by simp[V.out]),?_,E,?_,?_,?_,?_,?_,rg.trans (W.mono (fun k hk=>by rcases hk with h|h|h<;>omega))⟩
     .rw[bJ,N.out];refine ey.snoc (m:=a1) ?_ i2 io;exact(hD.out.up i1).imp (fun a' m' q' x b0 b1 b2=>b2.same (fun b c1 c2=>W.block b (by omega) (fun hk=>by rcases hk with h|h|h<;>omega)))
     .exact un.out.imp (fun a' m' q' x b0 b1 b2=>b2.same (fun b c1 c2=>W.block b (by omega) (fun hk=>by rcases hk with h|h|h<;>omega)))
     .intro _;have:=WJ (dn:=R) (td:=E) (q:=q1') sp;rw[bW,bC]at this;rw[this];exact hb4
     .intro x hx;rcases aJ.1 hx with h|h
      .exact M.out x h
      .rw[bG.1 h];exact io.ok
     .exact fun x hx=>pm.out x (List.mem_cons_of_mem _ hx)
     .rw[hsz1];have e:((n:Int)+1+((Bt.gC (List.take i f)+t1.size:Nat):Int))=((n+1+Bt.gC (List.take i f)+t1.size:Nat):Int):=by omega
      rw[e];exact hn4
    case measure=>simp[intOf];omega
   .have O:i=f.length:=by omega
    have hd1:=decide_eq_false (by omega);rw[O,List.take_length]at qr;have g7:=hD.out;rw[O,List.take_length]at g7;rw[O,List.drop_length]at hT;have htd:td=[]:=by
     cases td with
     |nil=>rfl
     |cons x y=>exact hT.elim
    subst htd;have ham:a<=m:=hT;replace hT:=trivial;replace g7:=aU g7;go_wp2_with fail
    refine cP (cL rfl _ _ _) rfl ⟨rfl,rg,{q with ix:=(n:Int)},?_,eq,by rw[<-cZ];exact qr⟩;have ip:=em.out;rw[fh]at ip;refine⟨e1.out,e2.out,by show(n:Int)=(bif true then ix else 0);rw[i8.out];rfl,e4.out,e5.out,v,R,m,?_,hm,?_,?_,M.out,u.out⟩
    .exact g7.out.up ham
    .by_cases Q:0<f.length
     .have hl:(R.flatMap Bc.cells).length=(qs.flatMap Bc.cells).length:=by rw[ky M.out,ky am.out,V.out,O,z.out]
      have:=B.out Q wr _ hl (ip Q);rw[V.out,O];exact this
     .have g8:f=[]:=List.eq_nil_of_length_eq_zero (by omega);have hd0:=List.eq_nil_of_length_eq_zero (by rw[V.out,O,g8];rfl);rw[u.out g8,hd0];exact dl _ _ _ _
    .intro b hb;by_cases Q:0<f.length
     .rw[G.out Q]at hb;cases hb;exact(L.out Q).2
     .have g8:f=[]:=List.eq_nil_of_length_eq_zero (by omega);rw[u.out g8]at hb;cases hb
def CQ:∀(a:List ByteArray) (n:Nat),mN n (lF n a)/\Bt.gC (lF n a)=2*a.length
 |[],n=>⟨by unfold lF mN;trivial,by simp[lF,Bt.gC]⟩
 |s::r,n=>by
  obtain⟨b,c⟩:=CQ r (n+2);have d:(x6 n s).size=2:=by simp[x6,Bt.size,Bt.gC]
  unfold lF mN Bt.gC;rw[d];refine⟨⟨?_,b⟩,by rw[c,List.length_cons];omega⟩;unfold x6 BE;refine⟨rfl,?_⟩;unfold mN BE;refine⟨⟨by omega,?_⟩,?_⟩<;>(unfold mN;trivial)
def CR:∀(R:List (List ByteArray)) (n:Nat),mN n (gQ n R)/\Bt.gC (gQ n R)=R.length+2*(R.map List.length).sum
 |[],n=>⟨by unfold gQ mN;trivial,by simp[gQ,Bt.gC]⟩
 |r::R,n=>by
  obtain⟨a,b⟩:=CR R (n+(1+2*r.length));obtain⟨c,d⟩:=CQ r (n+1);have e:(Pe n r).size=1+2*r.length:=by unfold Pe Bt.size;rw[d]
  unfold gQ mN Bt.gC;rw[e];refine⟨⟨?_,a⟩,by rw[b,List.length_cons,bV,lI];omega⟩;unfold Pe BE;exact⟨rfl,c⟩
def ID(R:List (List ByteArray)):BE 0 (M5 R)/\(M5 R).size=2+(R.length+2*(R.map List.length).sum):=by
 obtain⟨a,b⟩:=CR R 2;constructor
 .unfold M5 BE;refine⟨rfl,?_⟩;unfold mN;refine⟨?_,by unfold mN;trivial⟩;unfold Io BE;exact⟨rfl,a⟩
 .unfold M5 Bt.size Bt.gC Bt.gC;unfold Io Bt.size;rw[b];omega
def K6{m:Nat}:∀(l:List Nat),(∀x∈l,x<=m)->l.sum<=m*l.length
 |[],_=>by simp
 |x::l,h=>by
  have b:=h x (by simp);have c:=K6 l fun y a=>h y (by simp[a]);rw[lI,aW,NE];omega
def gM.wide{f:Bool}{d C j A:Nat}{t:Bt}(h:gM w f d B C q t)(E:j<=B)(D:C<=A):gM w f d j A q t:=by
 cases d with
 |zero=>exact h.elim
 |succ d=>
  obtain⟨H,I,J,L,M,N,O,m,P,Q,R,S,T,V⟩:=h;exact⟨H,I,J,L,M,N,O,m,P.down E,Nat.le_trans Q D,R,fun g W=>Nat.lt_of_lt_of_le (S g W) D,T,V⟩
section
theorem Lp{a:List Bc}{b:Bc}{j:List Bt}{A:Option Addr}{c:Nat}(h:Calls tp 52 #[.agg b.arr] w fun e d=>∃i,e=.returned (.agg ({b with kv:=i}:Bc).arr)/\Below w w d/\d.ownsRow w 66 57 i a.length (a.flatMap Bc.cells)/\(a=[]->i=zn)):
 Calls tp 52 #[.agg b.arr] w fun e d=>∃f g,e=.returned (.agg ({b with kv:=.slice f a.length g}:Bc).arr)/\Below w w d/\(d.ownsRow w 66 57 (.slice f a.length g) a.length (a.flatMap Bc.cells)/\(a=[]->Value.slice f a.length g=zn)\/f=A/\g=c/\(∀t∈j,t.kids=[])/\j.length=1):=
 h.mono fun e d ⟨i,l,m,k,n⟩=>by obtain⟨f,g,rfl,-⟩:=aV k;exact⟨f,g,l,m,.inl ⟨k,n⟩⟩
theorem I0{L:List Nd}{n:Nat}{x:Nd}(a:L[n]? =some x):(L.map mL)[n]? =some (mL x):=by rw[ai,a];rfl
section
variable{L:List Nd}{B gt gl gm:Nat}(hLl:L.length<=4000)
include hLl
theorem PU(w:World)(I:zU w B gt gl gm L (L.map mL))(p:B<=w.heap.size)(n:Nat)(s:ByteArray)(r:qO L n (iX s)):
 Calls tp 49 #[n,(4:Int),zJ,pt gt,pt gl,pt gm] w
  fun e g=>∃q,e=tQ #[.agg q.arr,true]/\Below w w g/\gM g false 2 w g q (x6 n s):=by
 unfold iX qO at r;rw[aI (by simp[ne1])]at r;obtain⟨⟨x,E,h,j,l⟩,m⟩:=r;unfold nw at m;have a:=m.1;unfold qO at a;rw[aS ne0]at a;obtain⟨y,u,o,v⟩:=a;have z:jz (n+1) [Pt.mk eQ s []]=[n+1]:=by simp[jz]
 rw[z]at l;refine yg (d:=6) (c:=4278190335) (bk:=5) (kk:=7) (.inr (.inr (.inr ⟨rfl,rfl,rfl,rfl⟩))) (by decide) (by decide) rfl (rV .td) w I p hLl E h (by rw[j];decide+kernel) ?_ n 1 [n+1] [.mk 7 (n+1:Nat) (n+1:Nat) (bh 0 0) s []] l rfl (by simp) (by have:=(aa.1 u).1;simp;omega) ?_ ?_ ?_ ?_
 .rw[I0 E,o7 h (k:=.td) j];rfl
 .intro t a;rw[bG.1 a];rfl
 .intro t a;rw[bG.1 a];exact⟨_,_,rfl⟩
 .intro w A c F J K G b M f H hR;have G:F.length=1:=G;refine(Sy w b M f F J K (by omega) A c H hR).mono fun e g ⟨N,O⟩=>⟨A,c,by rw[<-H];exact N,O,.inr ⟨rfl,rfl,fun t a=>by rw[bG.1 a];rfl,rfl⟩⟩
 .intro i k t f a g C D
  match i,f,a with
  |0,f,a=>
   cases f;cases a;rw[<-v];exact Pc g C D u o (by rw[I0 u,M4 o]) 5 1 _
  |i+1,f,a=>simp at f
theorem TG(w:World)(D:zU w B gt gl gm L (L.map mL))(p:B<=w.heap.size)(n:Nat)(f:List ByteArray)(K:f.length<=9)(r:qO L n (kg f)):
 Calls tp 49 #[n,zY,zJ,pt gt,pt gl,pt gm] w
  fun e g=>∃q,e=tQ #[.agg q.arr,true]/\Below w w g/\gM g false 3 w g q (Pe n f):=by
 unfold kg qO at r;rw[aI (by simp[ne2])]at r;obtain⟨⟨x,u,h,j,v⟩,l⟩:=r;refine yg (d:=5) (c:=0) (bk:=4) (kk:=5) (.inr (.inr (.inl ⟨rfl,rfl,rfl,rfl⟩))) (by decide) (by decide) rfl (rV .tr) w D p hLl u h (by rw[j];decide+kernel) ?_ n 2 (jz (n+1) (f.map iX)) (lF (n+1) f) v ?_ ?_ ?_ ?_ ?_ (fun w A c E F G H b I y J hR=>Lp (Wg w b I y E F G (by rw[H,qR];omega) A c J hR)) ?_
 .rw[I0 u,o7 h (k:=.tr) j];rfl
 .rw[qR,kX,aj]
 .rw[kX,aj];omega
 .rw[kX];exact KW l (by omega) u
 .intro t m;obtain⟨a,b,rfl⟩:=Ip m;rfl
 .intro t m;obtain⟨a,b,rfl⟩:=Ip m;exact⟨_,_,rfl⟩
 .intro i k t y m g z C;obtain⟨s,_,rfl,o⟩:=M6 l y m;exact PU hLl g z C k s o
theorem Lq(w:World)(C:zU w B gt gl gm L (L.map mL))(n:B<=w.heap.size)(R:List (List ByteArray))(hR:R.length<=9)(D:∀r∈R,r.length<=9)(o:qO L 1 (.mk eT eQ (R.map kg))):
 Calls tp 49 #[.int .i64 (1:Nat),zJ,zQ,pt gt,pt gl,pt gm] w
  fun e f=>∃q,e=tQ #[.agg q.arr,true]/\Below w w f/\gM f false 4 w f q (Io R):=by
 unfold qO at o;rw[aI (by simp[ne3])]at o;obtain⟨⟨x,p,g,h,u⟩,j⟩:=o;refine yg (d:=4) (c:=0) (bk:=3) (kk:=4) (.inr (.inl ⟨rfl,rfl,rfl,rfl⟩)) (by decide) (by decide) rfl (rV .tab) w C n hLl p g (by rw[h];decide+kernel) ?_ 1 3 (jz (1+1) (R.map kg)) (gQ 2 R) u ?_ ?_ ?_ ?_ ?_ (fun w A c E F G H b I v J hR=>Lp (Pa w b I v E F G (by rw[H,uJ];omega) A c J hR)) ?_
 .rw[I0 p,o7 g (k:=.tab) h];rfl
 .rw[uJ,kX,aj]
 .rw[kX,aj];omega
 .rw[kX];exact KW j (by omega) p
 .intro t l;obtain⟨a,b,rfl⟩:=Iq l;rfl
 .intro t l;obtain⟨a,b,rfl⟩:=Iq l;exact⟨_,_,rfl⟩
 .intro i k t v l f y z;obtain⟨s,K,rfl,m⟩:=M7 j v l;exact TG hLl f y z k s (D s K) m
theorem PV(w:World)(C:zU w B gt gl gm L (L.map mL))(o:B<=w.heap.size)(R:List (List ByteArray))(hR:R.length<=9)(D:∀r∈R,r.length<=9)(p:qO L 0 (pU R)):
 Calls tp 49 #[zQ,zQ,zQ,pt gt,pt gl,pt gm] w
  fun e h=>∃q,e=tQ #[.agg q.arr,true]/\Below w w h/\gM h false 5 w h q (M5 R):=by
 unfold pU qO at p;rw[aI (by simp[ne4])]at p;obtain⟨⟨x,s,j,l,m⟩,n⟩:=p;have a:=n;unfold nw at a;have u:jz (0+1) [Pt.mk eT eQ (R.map kg)]=[1]:=by simp[jz]
 rw[u]at m;refine yg (d:=1) (c:=0) (bk:=1) (kk:=3) (.inl ⟨rfl,rfl,rfl,rfl⟩) (by decide) (by decide) rfl (rV .root) w C o hLl s j (by rw[l];decide+kernel) ?_ 0 4 [1] [Io R] m rfl (by decide) ?_ ?_ ?_ (fun w A c E F G z b H g I hR=>Lp (Sx w b H g E F G (by rw[z];exact(by decide:1<=100)) z A c I hR)) ?_
 .rw[I0 s,o7 j (k:=.root) l];rfl
 .have:=KW n (by omega) s;simpa using this
 .intro t f;rw[bG.1 f];rfl
 .intro t f;rw[bG.1 f];exact⟨_,_,rfl⟩
 .intro i k t g f h v y
  match i,g,f with
  |0,g,f=>
   cases g;cases f;exact Lq hLl h v y R hR D a.1
  |i+1,g,f=>simp at g
end
end
def Lr(R:List (List ByteArray))(I:ep.gI R)(A A2:Option Addr)(c J:Nat)(w:World)(hA:dU w w A 9 Nd.cells (nodesT R))(hS:dU w w A2 52 (List.map dV) ((nodesT R).map mL)):
 Calls tp 25 #[.agg #[.slice A (nodesT R).length c],.slice A2 (nodesT R).length J] w fun e D=>∃q,e=tQ #[.agg q.arr,true]/\Below w w D/\gM D true 5 w D q (M5 R):=by
 obtain⟨hl,⟨K,hb⟩,hD⟩:=kx I;have eq:R.length<=9:=by have:=I.rows;omega
 have i:∀r∈R,r.length<=9:=fun r hr=>by have:=I.cells r hr;omega
 have hp:=CD (nodesT R) (pU R) 0 (-1) (-1) (-1) [] (by rw[Ue,fh];rfl);have WF:=M1 hp;obtain⟨x0,ge,M⟩:∃x0,(nodesT R)[0]? =some x0/\mL x0=bh 1 0:=by
  have j:=hp;unfold pU qO at j;rw[aI (by simp[ne4])]at j;obtain⟨⟨x,hx,g7,g8,WP⟩,hps⟩:=j;exact⟨x,hx,by rw[o7 g7 (k:=.root) g8];rfl⟩
 have ii:0+(M5 R).size<=5000:=by
  rw[(ID R).2];have:=K6 (m:=6) (R.map List.length) (fun x hx=>by obtain⟨r,hr,rfl⟩:=List.mem_map.1 hx;exact I.cells r hr);rw[aj]at this;have:=I.rows;omega
 generalize hL:nodesT R=L at*;obtain⟨E,F,rfl,N,O⟩:=tv hS (by rw[ai,ge];rfl:(L.map mL)[0]? =some (mL x0));rw[M]at O;have P:w.cell? (E,F)=zJ:=by
  have:=O 0 zJ rfl;simpa using this
 replace i:=aU i;have a:=fun D (h:Below w w D)=>rP L K _ A c D hb hD ((hA.below h).more h.size);replace a:=aU a;have UV:decide ((L.length:Int)=(L.length:Int))=true:=bf rfl;go_enter Tryz.func25,Tryz.ntmps25
 go_upto_region 1 with fail
 refine bM (fun Z=>aE Z w 48 #[.slice A L.length c]/\aE Z (w.heap.size+1) 78 #[(E,F,L.length,J)]/\aE Z (w.heap.size+2) 66 tI.arr/\Below w w Z)
  ⟨((aE.new _ _ _).alloc _).alloc _,(aE.newAt _ _ _ (by simp<;>omega)).alloc _,aE.newAt _ _ _ (by simp<;>omega),(((Below.refl _ _).alloc (ae _) _).alloc (by simp<;>omega) _).alloc (by simp<;>omega) _⟩ ?_
 rintro w1 ⟨l,Q,n,o⟩;obtain⟨W,d⟩:=iG w.heap.size;rw[<-d]at l Q n o N hA hS|-;replace d:=aU d;have hs1:=n.lt;have c1:=l.cell 0;have io:=a.out w1 (by rw[<-d.out];exact o);go_upto_region 3 with(go_at_call 23;go_loud (refine io.mono ?_;rintro e p ⟨rfl,f⟩;have S:=l.below f (by omega);have T:=Q.below f (by omega);have ip:=n.below f (by omega);have U:=o.trans (f.mono (by omega));have hs2:=f.size;have k2:p.cell? W=some (.slice A L.length c):=S.cell 0;have k3:p.cell? (W+1,0)=(E,F,L.length,J):=T.cell 0;have k4:p.cell? (E,F)=zJ:=(U.cell N).trans P))
 go_upto_region 5 with fail
 refine bM (fun Z=>aE Z W 48 #[.slice A L.length c]/\aE Z (W+1) 78 #[(E,F,L.length,J)]/\aE Z (W+2) 66 tI.arr/\aE Z p 128 #[.func (.func 49) #[] #[pt W,pt (W+1),pt p]]/\Below W w Z/\p.heap.size<Z.heap.size)
  ⟨S.alloc _,T.alloc _,ip.alloc _,aE.new _ _ _,U.alloc (by omega) _,by simp⟩ ?_
 rintro w3 ⟨i8,jp,s,V,t,hs3⟩;generalize p.heap.size=X at*;have lw:zU w3 (X+1) W (W+1) X L (L.map mL):=⟨⟨A,c,i8.cell 0,(hA.below t).more (by omega)⟩,⟨(E,F),J,by rw[aj];exact jp.cell 0,(hS.below t).more (by omega)⟩,V.cell 0,by omega,by omega,by omega⟩;have u:=PV (by omega) w3 lw (by omega) R eq i.out hp;have c6:w3.cell? X=some (.func (.func 49) #[] #[pt W,pt (W+1),pt X]):=V.cell 0;go_wp2_with (first|(go_at_call 49;go_loud (refine u.mono ?_;rintro e w4 ⟨q,rfl,v,Y⟩))|refine dm 66 _ _ rfl rfl ?_)
 refine⟨?_⟩;have y:=Y.ok;refine dK q.arr rfl rfl rfl rfl (aE.new _ _ _) (by rw[Bc.size y];rfl) (bS y) (Bc.all y) ?_;intro G am z;have hs4:=v.size;have mp:=((s.below v s.lt).alloc _).dA z (by have:=s.lt;omega);have n6:=((t.trans (v.mono (by omega))).alloc (by omega) _).trans (z.below (by omega));have pm:=Y.same (fun b h1 h2=>(z.other b (by omega)).trans (aG _ _ h2));have hs5:=am.lt;generalize w4.heap.size=gb at*;generalize w3.heap.size=lo at*;go_upto_region 11 with fail
 refine bM (fun Z=>aE Z (W+2) 66 tI.arr/\aE Z gb 66 q.arr/\aE Z G 3 #[.int .i64 ((0:Nat):Int)]/\aE Z (G.heap.size+1) 132 #[.func (.func 53) #[] #[pt G.heap.size,pt (G.heap.size+1)]]/\Below W w Z/\gM Z false 5 lo gb q (M5 R)/\G.heap.size+1<Z.heap.size)
  ⟨(mp.alloc _).alloc _,(am.alloc _).alloc _,(aE.new _ _ _).alloc _,aE.newAt _ _ _ (by simp),(n6.alloc (by omega) _).alloc (by simp;omega) _,pm.same (fun b h1 h2=>(heap_alloc_old _ _ (by simp;omega)).trans (aG _ _ (by omega))),by simp⟩ ?_
 rintro w6 ⟨qr,rg,un,a5,ut,wl,hs6⟩;generalize G.heap.size=H at*;have c7:w6.cell? (H+1,0)=some (.func (.func 53) #[] #[pt H,pt (H+1)]):=a5.cell 0;have a9:=xh (gn:=H) (gm:=H+1) 5 (M5 R) q lo gb 0 gb 0 66 [] [] w6 wl (ID R).1 ii (by simpa[Bc.arr]using rg) rfl (.inr (ae _)) (by omega) (.inr (by omega)) (.inr (by omega)) (by omega) (by omega) (by omega) un a5;go_wp2_with (first|(go_at_call 53;go_loud (refine a9.mono ?_;rintro e w7 ⟨rfl,B,q',em,wn,-⟩))|refine dg 66 _ rfl rfl ?_)
 refine⟨?_⟩;have g:=em.ok;have ww:aE w7 gb 66 q'.arr:=by simpa[Bc.arr]using wn
 have Do:=B.dJ qr (fun hk=>by rcases hk with h|h|h<;>omega);have H1:=ut.trans (B.below (by omega) (fun k hk=>by rcases hk with h|h|h<;>omega));refine eu rfl rfl rfl ww Tryz.underlying66 rfl (bS g) ?_;go_wp2_with (refine aX 66 rfl ?_)
 refine⟨dK q'.arr rfl rfl rfl rfl Do (by rw[Bc.size g,Bc.size kW]) (bS g) (Bc.all g) ?_⟩;intro w8 In C;go_wp2_with fail
 refine ej (o6 4 66 (W+2) 5 rfl rfl In _ aY rfl (bS g) _ rfl) rfl ?_;rw[<-d.out];have hs7:=B.size;have hs8:=C.size;refine⟨q',rfl,H1.trans (C.below (by omega)),?_⟩;refine gM.wide (em.same (fun b h1 h2=>C.other b (by omega))) (by omega) (by omega)
