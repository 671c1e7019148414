/- part of topCells.proved -/
import Derived.Test.YtkkiefcapbddkaaGreatDoorCg
set_option linter.all false
set_option maxRecDepth 1000000
set_option maxHeartbeats 0
noncomputable section
namespace Go.Abs
open Go.RowKit Go.Proofs YtkkiefcapbddkaaGreatDoor Mem ep
variable{x:Int}{B n:Nat}{v:Value}{w:World}
section
attribute[local instance] dZ
structure Mv(X Z:Nat->Prop)(F:Nat->Nat)(w:World)(F':Nat->Nat)(w':World):Prop where
 os:w'.os=w.os
 tape:w'.tape=w.tape
 output:w'.output=w.output
 size:w.heap.size<=w'.heap.size
 dJ:∀b,b<w.heap.size->¬X b->w'.heap[b]? =w.heap[b]?
 pos:∀b,0<F b->F' b=F b
 zero:∀b,b<w.heap.size->F b=0->¬Z b->F' b=0
 x0:∀b,X b->F b=0
 gk:Gk F' w'
def no:Nat->Prop:=fun _=>False
section
variable{X Z:Nat->Prop}{F F':Nat->Nat}{w w':World}
def Mv.kept(m:Mv X Z F w F' w')(A:Gk F w):Kept F w F' w':=fun b j=>⟨m.pos b j,m.dJ b (A.lt j) (fun B=>by rw[m.x0 b B]at j;omega)⟩
def Mv.kI(B:Gk F w)(j:Below w w w')(g:Gk F' w')(A:∀b,b<w.heap.size->F' b=F b):Mv no no F w F' w':=
 ⟨j.os,j.tape,j.output,j.size,fun b h _=>j.block b h,fun b h=>A b (B.lt h),fun b h C _=>(A b h).trans C,fun b h=>h.elim,g⟩
def Mv.alloc(j:Gk F w)(o:Obj):Mv no no F w F (w.alloc o):=Mv.kI j ((Below.refl _ _).alloc (ae _) o) (j.alloc o) (fun _ _=>rfl)
def Mv.drew(j:Gk F w):Mv no no F w F w.drew:=Mv.kI j (Below.refl _ w).drew j.drew (fun _ _=>rfl)
def Mv.new{o:Obj}(j:Gk F w)(A:fp w (w.alloc o) w'):Mv no no F w F w':=
 Mv.kI j ((((Below.refl w w).alloc (ae _) o)).trans (A.below (Nat.le_refl _))) ((j.alloc o).dA A (j.fresh _ (Nat.le_refl _))) (fun _ _=>rfl)
def Mv.dA{g:Nat}(B:Gk F w)(j:fp g w w')(A:F g=0):Mv (fun b=>b=g) no F w F w':=
 ⟨j.os,j.tape,j.output,by rw[j.size];exact ae _,fun b _ C=>j.other b C,fun _ _=>rfl,fun _ _ h _=>h,fun b D=>by rw[D];exact A,B.dA j A⟩
def Mv.grown{v:Value}(B:Gk F w)(j:w.grownBy w' v.ownBlock)(A:∀g,v.ownBlock=some g->F g=0):Mv (fun b=>v.ownBlock=some b) no F w F w':=
 ⟨j.os,j.tape,j.output,j.size,fun b h C=>j.block b h (fun e=>C e.symm),fun _ _=>rfl,fun _ _ h _=>h,fun b D=>A b D,B.grown j A⟩
def Mv.up{g m:Nat}(A:Gk F w)(j:F g=0)(B:g<w.heap.size):Mv no (fun b=>b=g) F w (up F g m) w:=
 ⟨rfl,rfl,rfl,ae _,fun _ _ _=>rfl,fun b h=>bI _ _ _ (fun e=>by rw[e,j]at h;omega),fun b _ h C=>by rw[bI _ _ _ C];exact h,fun b h=>h.elim,A.up j B⟩
def Mv.dB(m:Mv X Z F w F' w'){g:Nat}{t:TypeId}{j:Array Value}(h:aE w g t j)(A:¬X g):aE w' g t j:=(m.dJ g h.lt A).trans h
def Mv.own(m:Mv X Z F w F' w'){sz:Nat}{e:TypeId}{j:List Value}(h:w.ownsRow B e sz v n j)(A:∀g,v.ownBlock=some g->¬X g):w'.ownsRow B e sz v n j:=
 aZ h (fun g C D=>m.dJ g D (A g C))
def Mv.Ti(m:Mv X Z F w F' w'){sz:Nat}{e:TypeId}{A:List Value}(h:w.ownsRow B e sz v n A)(C:∀g,v.ownBlock=some g->F g=0)(D:∀g,v.ownBlock=some g->¬Z g):∀g,v.ownBlock=some g->F' g=0:=fun g j=>m.zero g (h.lt g j).2 (C g j) (D g j)
def Mv.below(m:Mv X Z F w F' w'){W:World}(h:Below B W w)(A:B<=w.heap.size)(j:∀b,X b->B<=b):Below B W w':=
 h.trans ⟨m.os,m.tape,m.output,m.size,fun b C=>m.dJ b (by omega) (fun e=>by have:=j b e;omega)⟩
def Mv.fs(m:Mv X Z F w F' w'){j:Nat->Nat}(h:∀b,b<B->F b=j b)(D:B<=w.heap.size)(C:∀b,Z b->B<=b):∀b,b<B->F' b=j b:=fun b A=>by
 rcases cz (F b)with h0|h0
 .rw[<-h b A,h0];exact m.zero b (by omega) h0 (fun e=>by have:=C b e;omega)
 .rw[m.pos b h0];exact h b A
end
def ZH:Array Value:=#[zn,zn,zn,zQ]
structure TO(W:World)(F0:Nat->Nat)(B:Nat)(lA bA iA:Array Value)(kv:Value)(n:Nat)(fl:List Value)(Ds:List (List D))(F:Nat->Nat)(w:World):Prop where
 gk:Gk F w
 bl:Below B W w
 fs:∀b,b<B->F b=F0 b
 l:aE w B 135 lA
 b:aE w (B+1) 66 bA
 i:aE w (B+2) 243 iA
 r:aE w (B+3) 247 ZH
 c:aE w (B+4) 247 #[zn,kv,zn,zQ]
 z:∀j,j<5->F (B+j)=0
 o:w.ownsRow (B+5) 70 67 kv n fl
 oz:∀g,kv.ownBlock=some g->F g=0
 ra:RA F w Ds.flatten fl
 dk:∀d∈Ds.flatten,ln d
def TO.mv{X Z:Nat->Prop}{F F':Nat->Nat}{w w' W:World}{J:Nat->Nat}{L M N:Array Value}{C:Value}{O:List Value}{P:List (List D)}(h:TO W J B L M N C n O P F w)(m:Mv X Z F w F' w')
 (A:∀g,X g->B+5<=g/\C.ownBlock≠some g)(E:∀g,Z g->B+5<=g/\C.ownBlock≠some g):TO W J B L M N C n O P F' w':=by
 have R:=h.c.lt;exact⟨m.gk,m.below h.bl (by omega) (fun b H=>by have:=(A b H).1;omega),m.fs h.fs (by omega) (fun b H=>by have:=(E b H).1;omega),
  m.dB h.l (fun e=>by have:=(A _ e).1;omega),m.dB h.b (fun e=>by have:=(A _ e).1;omega),m.dB h.i (fun e=>by have:=(A _ e).1;omega),m.dB h.r (fun e=>by have:=(A _ e).1;omega),m.dB h.c (fun e=>by have:=(A _ e).1;omega),
  fun j Q=>m.zero _ (by omega) (h.z j Q) (fun e=>by have:=(E _ e).1;omega),m.own h.o (fun g I e=>(A g e).2 I),m.Ti h.o h.oz (fun g I e=>(E g e).2 I),h.ra.move (m.kept h.gk) h.dk,h.dk⟩
def bO{P:Nat->Prop}:∀g,no g->P g:=fun g h=>h.elim
end
section
def z4:List D:=[iN 0,iN 0,iN 0,iN 0]
def ZI:List D:=[iN 0,iN 0,iN 0,iN 0,iN 0,iN 0,iN 0,iN 0,iN 0,iN 0,iN 0,iN 0,iN 0]
theorem W1:ij (gR []) 40 194 [.a (bh 6 4278190335),.d cW] (.a z4)=true:=by decide+kernel
theorem Np:ij (gR []) 40 195 [.a (bh 6 4278190335)] (.a z4)=true:=by decide+kernel
theorem Tj:ij (gR []) 40 140 [.a ZI] (.tu [.d (iN 0),.d (iN 0)])=true:=by decide+kernel
theorem W2:ij (gR []) 40 140 [.a tG] (.tu [.d (iN 0),.d (iN 0)])=true:=by decide+kernel
attribute[local instance] dZ
def zv4:Array Value:=#[zQ,zQ,zQ,zQ]
def iy(w:Int):Array Value:=#[zQ,zQ,zQ,zQ,zQ,zQ,zQ,zQ,zQ,zQ,zQ,zQ,w]
theorem Lg[de]{F:Nat->Nat}(h:GV (gF F) (fun _=>none) w (.a z4) v):v=.agg zv4:=by
 obtain⟨c,rfl,b⟩:=GV.ra h;rw[ku rfl b];rfl
theorem IN[de]{F:Nat->Nat}(h:GV (gF F) (fun _=>none) w (.tu [.d (iN 0),.d (iN 0)]) v):v=.tuple #[zQ,zQ]:=by
 cases h with
 |tu _ e f c=>
  match e,f with
  |[a,b],_=>
   have g:=(c 0 _ a rfl rfl).cG;have i:=(c 1 _ b rfl rfl).cG;cases g;cases i;rfl
section
variable{F:Nat->Nat}{W:World}(hk:Gk F W)
include hk
theorem Tl(g:1<=x)(h:x<=4500):Calls tp 194 #[.agg (db (bh 6 4278190335)),x] W fun e f=>∃c,e=.returned (.agg zv4)/\Below W W f/\Gk c f/\∀b,b<W.heap.size->c b=F b:=by
 have i:= @RD.x (fY 0 0 0 x 0) F W .i64 (.v 4) 1 4500 g h
 letI:=fY 0 0 0 x 0
 refine((jy bH rfl W1).2.mH rfl hk (GL.cons (show GV (gF F) (fun _=>none) W (.a (bh 6 4278190335)) (.agg (db (bh 6 4278190335)))from(nr (bu _ _).p).gv) (GL.cons (.d _ _ i) GL.nil))).mono ?_;rintro e f ⟨v,c,rfl,j,k,l,m⟩;exact⟨c,by rw[Lg j],k,l,m⟩
theorem Lh:Calls tp 195 #[.agg (db (bh 6 4278190335))] W fun e c=>∃a,e=.returned (.agg zv4)/\Below W W c/\Gk a c/\∀b,b<W.heap.size->a b=F b:=by
 refine((jy bH rfl Np).2.mH rfl hk (GL.cons ((bu _ _).gv _ _) GL.nil)).mono ?_;rintro e c ⟨v,a,rfl,d,f,g,h⟩;exact⟨a,by rw[Lg d],f,g,h⟩
theorem W3:Calls tp 140 #[.agg (iy 0)] W fun e c=>∃a,e=tQ #[zQ,zQ]/\Below W W c/\Gk a c/\∀b,b<W.heap.size->a b=F b:=by
 have d:RA F W ZI (ZI.map dV):=nr rfl;refine((jy bH rfl Tj).2.mH rfl hk (GL.cons d.gv GL.nil)).mono ?_;rintro e c ⟨v,a,rfl,f,g,h,i⟩;exact⟨a,by rw[IN f],g,h,i⟩
theorem ZJ(k:1<=x)(l:x<=4500):Calls tp 140 #[.agg (iy x)] W fun e c=>∃a,e=tQ #[zQ,zQ]/\Below W W c/\Gk a c/\∀b,b<W.heap.size->a b=F b:=by
 have d:RA F W (uR x) ((uR x).map dV):=nr rfl;have f:=mQ (fY 0 0 0 x 0) dZ (show @RA dZ F W (@kC (fY 0 0 0 x 0) tG) _ from d) (by simp[tG,uP,Bw,cW,Ex.val,vC4,iN];omega) (by simp[jw,pX,tG,cW,iN])
 letI:=fY 0 0 0 x 0
 refine((jy bH rfl W2).2.mH rfl hk (GL.cons f.gv GL.nil)).mono ?_;rintro e c ⟨v,a,rfl,g,h,i,j⟩;exact⟨a,by rw[IN g],h,i,j⟩
end
theorem X0{F:Nat->Nat}{g o:Nat}{t:TypeId}{c:Array Value}{e:Nat×Nat}(k:w.heap[g]? =some (.cells c t e))(l:o+13<=F g)(m:F g<=c.size)(h:∀j v,(iy x)[j]? =some v->c[o+j]? =some v):
 RD F w (.q 13 [uR x] 0 0) (.pointer (g,o)):=by
 have:=RD.q (F:=F) (w:=w) 13 [uR x] 0 0 g o c t e k (by simpa using l) m (fun r n=>by rw[bG.1 n];rfl) (fun i r j d v a b f=>by
  match i,a with
  |0,a=>
   cases a;have u:=(List.getElem?_eq_some_iff.1 b).1;have p:=List.all_eq_true.1 (show(uR x).all dP=true from rfl) d (List.mem_of_getElem? b);have s:(iy x)[j]? =some (dV d):=by
    show((uR x).map dV).toArray[j]? =_;rw[cK,ai,b];rfl
   have:=h j _ s;rw[show o+0*13+j=o+j by omega,this]at f;cases f;exact Cf p
  |i+1,a=>simp at a)
 simpa using this
end
section
attribute[local instance] dZ
def Ax{F:Nat->Nat}{t:Bt}(u:ik t.sty){e:List Value}(h:RA F w (mO t) e):∃k,e=(⟨t.kind,t.node,t.ix,t.sty,t.text,k⟩:Bc).cells/\k.oneCell'=true/\RD F w (il t.kids) k:=by
 obtain⟨k,d,v⟩:=No u h;cases t with
 |mk a b c s x j=>
  have C:s.length=52:=u.n;have J:e.length=57:=by rw[h.len];exact l8 u
  refine⟨k,?_,h.one k (List.mem_of_getElem? d),v⟩;have l:=h.take 55;have D:(mO (.mk a b c s x j)).take 55=iN a::iN b::iN c::s:=by
   unfold mO;rw[lh,lh,lh,xq (by omega)]
  rw[D]at l;have m:(iN a::iN b::iN c::s).all dP=true:=by
   show(true&&(true&&(true&&s.all dP)))=true;rw[show s.all dP=true from u.p];rfl
  have E:=ku m l;have f:e[55]? =some (.string x):=by
   have G:(mO (.mk a b c s x j))[55]? =some (.s (Pv x)):=by
    unfold mO;rw[ap,ap,ap,ay (by omega),C];rfl
   have y:=h.at_ 55 _ e[55] G (List.getElem?_eq_getElem (by omega));rw[af (by omega)];generalize e[55]=q at y|-;cases y with
   |s _ o z=>
    have A:=z.len;have H:(Pv x).length=x.data.toList.length:=by simp[Pv]
    have:o.data.toList=x.data.toList:=by
     refine sL fun i=>?_;by_cases B:i<x.data.toList.length
     .have r:i<o.data.toList.length:=by omega
      have:=z.at_ i (.c (x.data.toList[i]).toNat) o.data.toList[i] (by unfold Pv;rw[ai,af B];rfl) (af r);have I:=this;rw[af B,List.getElem?_eq_getElem r]
      congr 1
      exact xo.1 I
     .rw[fe (show o.data.toList.length<=i by omega),fe (by omega)]
    congr 2
    have K:=Array.toList_inj.1 this;cases o;cases x;simp_all
  have g:e=e.take 55++[.string x,k]:=by
   conv=>lhs;rw[<-fV 55 e]
   congr 1
   rw[bQ (by omega),bQ (by omega),jC (by omega)];rw[af (by omega)]at f d;injection f with f;injection d with d;rw[f,d]
  rw[g,E];simp[Bc.cells,Bt.kind,Bt.node,Bt.ix,Bt.sty,Bt.text,dV,iN]
def PA(b:Bc)(g:b.Ok)(w:World):Calls tp 142 #[.agg b.arr] w fun e o=>e=.returned (.agg ({b with kv:=zn}:Bc).arr)/\Below w w o:=by
 have a:({b with kv:=zn}:Bc).Ok:=⟨g.sty,rfl⟩;go_enter Tryz.func142,Tryz.ntmps142
 go_upto_region 1 with fail
 refine bM (fun Z=>aE Z w 66 b.arr/\aE Z (w.heap.size+1) 66 tI.arr/\Below w w Z) ⟨(aE.new _ _ _).alloc _,aE.newAt _ _ _ (by simp),((Below.refl _ _).alloc (ae _) _).alloc (by simp) _⟩ ?_;rintro l ⟨f,m,n⟩;obtain⟨B,c⟩:=iG w.heap.size;rw[<-c]at f m n|-;replace c:=aU c;have p:=(f.cell 56).trans (Bc.l7 g.sty);have f56:=f.free 56;go_upto_region 2 with fail
 have hC:=fp.setCell l (B,56) zn;have d:=f.put 56 zn;rw[Bc.zT g.sty]at d;have h:=m.dA hC (by simp);have i:=n.trans (hC.below (Nat.le_refl B));generalize l.setCell (B,56) zn=q at*;go_wp2_with (refine aX 66 rfl ?_)
 refine⟨eu rfl rfl rfl d Tryz.underlying66 rfl (bS a) ?_⟩;go_wp2_with (refine aX 66 rfl ?_)
 refine⟨dK ({b with kv:=zn}:Bc).arr rfl rfl rfl rfl h (by rw[Bc.size a,Bc.size kW]) (bS a) (Bc.all a) ?_⟩;intro r j k;go_wp2_with fail
 refine ej (lD 2 66 (B+1) rfl rfl j _ aY rfl (bS a)) rfl ?_;rw[<-c.out];exact⟨rfl,i.trans (k.below (by omega))⟩
end
end Go.Abs
namespace Go.Abs
open Go.RowKit Go.Proofs YtkkiefcapbddkaaGreatDoor Mem ep Ord Num
section
attribute[local instance] dZ
def iZ(a:List Nat):Int:=if a=[]then 0 else 1280
def fU(a:List (List Nat))(i:Nat):Int:=((a.take i).map iZ).sum
def jN(a:Int)(C:List Int)(c:Nat)(b:List Nat)(y:Int)(k:Nat):List (List D):=(List.range k).map fun j=>pF ((c+2*j:Nat):Int) (cB C j) y (C.getD j 0) ((b.getD j 0:Nat)*a) (b.getD j 0)
def fJ(l:List (List D)):D:=match l with|[]=>.z|r::t=>.l 67 (r::t)
def C1(node:Int)(y w h:Int)(cells:List (List D)):List D:=iN 4::iN node::iN node::(bh 5 0++([.s [],.z]++([iN 0,iN y,iN w,iN h]++([iN 0,iN y,iN w,iN h]++[.z,fJ cells]))))
def fN(b:Int)(C:List Int)(S:Int)(a:List (List Nat))(i:Nat):List (List D):=(List.range i).map fun j=>C1 (sr 2 a j) (fU a j) S (iZ (a.getD j [])) (jN b C (sr 2 a j+1) (a.getD j []) (fU a j) (a.getD j []).length)
structure T1(g13 g14:Nat)(rA wA:Array Value)(n1 n2 n3:Nat)(v15 v16 v17:Value)(his frs les:List Value)(F:Nat->Nat)(w:World):Prop where
 rb:aE w g13 66 rA
 row:aE w g14 70 wA
 lt:g13<g14
 W4:F g13=0
 Tn:F g14=0
 hi:w.ownsRow (g14+1) 2 1 v15 n1 his
 fr:w.ownsRow (g14+1) 141 13 v16 n2 frs
 le:w.ownsRow (g14+1) 2 1 v17 n3 les
 hz:∀g,v15.ownBlock=some g->F g=0
 fz:∀g,v16.ownBlock=some g->F g=0
 lz:∀g,v17.ownBlock=some g->F g=0
 ne:∀g,v15.ownBlock=some g->v17.ownBlock≠some g
def T1.mv{X Z:Nat->Prop}{F C:Nat->Nat}{w w':World}{g13 g14 n1 n2 n3:Nat}{rA wA:Array Value}{v15 v16 v17:Value}{his frs les:List Value}(h:T1 g13 g14 rA wA n1 n2 n3 v15 v16 v17 his frs les F w)(m:Mv X Z F w C w')
 (A:∀g,X g->g14<g/\v15.ownBlock≠some g/\v16.ownBlock≠some g/\v17.ownBlock≠some g)(B:∀g,Z g->g14<g/\v15.ownBlock≠some g/\v16.ownBlock≠some g/\v17.ownBlock≠some g):T1 g13 g14 rA wA n1 n2 n3 v15 v16 v17 his frs les C w':=by
 have H:=h.lt;have D:=h.rb.lt;have E:=h.row.lt;exact⟨m.dB h.rb (fun e=>by have:=(A _ e).1;omega),m.dB h.row (fun e=>by have:=(A _ e).1;omega),h.lt,m.zero _ D h.W4 (fun e=>by have:=(B _ e).1;omega),m.zero _ E h.Tn (fun e=>by have:=(B _ e).1;omega),
  m.own h.hi (fun g j e=>(A g e).2.1 j),m.own h.fr (fun g j e=>(A g e).2.2.1 j),m.own h.le (fun g j e=>(A g e).2.2.2 j),m.Ti h.hi h.hz (fun g j e=>(B g e).2.1 j),m.Ti h.fr h.fz (fun g j e=>(B g e).2.2.1 j),m.Ti h.le h.lz (fun g j e=>(B g e).2.2.2 j),h.ne⟩
def TO.start{W:World}{A:Nat->Nat}(B:Gk A W)(C D E:Array Value):
 TO W A W C D E zn 0 [] [] A (((((W.alloc (.cells C 135)).alloc (.cells D 66)).alloc (.cells E 243)).alloc (.cells ZH 247)).alloc (.cells ZH 247)) where
 gk:=((((B.alloc _).alloc _).alloc _).alloc _).alloc _
 bl:=(((((Below.refl _ _).alloc (ae _) _).alloc (by simp) _).alloc (by simp;omega) _).alloc (by simp;omega) _).alloc (by simp;omega) _
 fs:=fun _ _=>rfl
 l:=((((aE.new _ _ _).alloc _).alloc _).alloc _).alloc _
 b:=(((aE.newAt _ _ _ (by simp)).alloc _).alloc _).alloc _
 i:=((aE.newAt _ _ _ (by simp)).alloc _).alloc _
 r:=(aE.newAt _ _ _ (by simp)).alloc _
 c:=aE.newAt _ _ _ (by simp)
 z:=fun j _=>B.fresh _ (by omega)
 o:=dl _ _ _ _
 oz:=fun g H=>by cases H
 ra:=RA.nil _ _
 dk:=fun d I=>by cases I
def Mv.quiet{F:Nat->Nat}{w w':World}(j:Gk F w)(A:Below w w w'):Mv no no F w F w':=
 Mv.kI j A (j.kept (Kept.kI j A (fun _ _=>rfl)) A.size) (fun _ _=>rfl)
def TO.kept{W:World}{j:Nat->Nat}{B n:Nat}{A C E:Array Value}{H:Value}{I:List Value}{J:List (List D)}{F:Nat->Nat}{w:World}(h:TO W j B A C E H n I J F w)(L:Gk j W)(M:B=W.heap.size):Kept j W F w:=by
 subst M;exact Kept.kI L h.bl h.fs
def T1.start{F:Nat->Nat}{w:World}{g13 g14:Nat}{rA wA:Array Value}(j:aE w g13 66 rA)(A:aE w g14 70 wA)(B:g13<g14)(C:F g13=0)(D:F g14=0):T1 g13 g14 rA wA 0 0 0 zn zn zn [] [] [] F w:=
 ⟨j,A,B,C,D,dl _ _ _ _,dl _ _ _ _,dl _ _ _ _,fun g h=>(by cases h),fun g h=>(by cases h),fun g h=>(by cases h),fun g h=>(by cases h)⟩
def wq(nd:Nat)(a:Value):Bc:=⟨4,nd,nd,bh 5 0,eQ,a⟩
def xE(nd:Nat)(x y w h:Int)(a:Value):Array Value:=((wq nd (.slice none 0 0)).cells++[.int .i64 0,.int .i64 x,.int .i64 y,.int .i64 w,.int .i64 0,.int .i64 0,.int .i64 0,.int .i64 h,.slice none 0 0,a]).toArray
def lb{a:List Value}(h:a.length=67):(Tryz.prog.info? 70).map (·.size)=some a.toArray.size:=by
 rw[bj,h];kernel_rfl
def Ay{P:Program}{c:Array Oper}{b:List Oper}{op:Oper}{a:Act}{w:World}{Q:Exit->Act->World->Prop}(t:TypeId)(d:Array (Nat×Operand))(e:op.op=.build t d)
 (h:Stop (wpList P c Q (op::b) a w)):wpList P c Q (op::b) a w:=h.out
def jx(a:Nat)(b:Value):Bc:=⟨5,a,a,bh 6 4278190335,eQ,b⟩
def IP{w:World}{g a:Nat}{c:Value}(h:aE w g 66 (jx a c).arr):w.rangeAt g 3 (db (bh 6 4278190335)).toList:=fun j u e=>by
 rw[h.cell (3+j)];have d:(List.map dV (bh 6 4278190335))[j]? =some u:=by simpa[db]using e
 rw[ai,dH]at d;obtain⟨f,i,rfl⟩:=d;exact Bc.ES (b:=jx a c) (bu _ _) i
def r6(x:Int):(Tryz.prog.info? 141).map (·.size)=some (iy x).size:=by kernel_rfl
def Az(x:Int):(iy x).all (·.oneCell')=true:=by simp[iy,Value.oneCell']
def r7{b:Int}(d:1<=b)(f:b<=500){c:List (List Nat)}(g:∀r∈c,∀n∈r,1<=n/\n<=9):∀j,j<(bo b c).length->1<=(bo b c).getD j 0/\(bo b c).getD j 0<=4500:=by
 intro j e;have i:=uV c [] (fun a h=>by cases h) g;unfold bo at e|-;rw[aj]at e;rw[ah,ai,af e];obtain⟨l,k⟩:=i _ (jn e);have:=yb d f k;refine⟨?_,this.2⟩;show 1<=((fT [] c)[j]:Int)*b;have:(1:Int)*1<=((fT [] c)[j]:Int)*b:=Int.mul_le_mul (by omega) d (by omega) (by omega);omega
def Fa{a:Int}(b:1<=a)(c:a<=500){Rn:List (List Nat)}(d:∀r∈Rn,∀n∈r,1<=n/\n<=9)(j:Nat)(g:j<=5):0<=cB (bo a Rn) j/\cB (bo a Rn) j<=30000:=by
 have e:∀i,0<=(bo a Rn).getD i 0/\(bo a Rn).getD i 0<=4500:=fun i=>by
  by_cases f:i<(bo a Rn).length
  .have:=r7 b c d i f;omega
  .rw[ah,fe (by omega)];simp
 have:=yc e j (by omega);omega
def IQ(a:List Nat):0<=iZ a/\iZ a<=1280:=by unfold iZ;split<;>omega
def Nq:∀(l:List Int),(∀x∈l,0<=x/\x<=1280)->0<=l.sum/\l.sum<=1280*l.length
 |[],_=>by simp
 |x::l,h=>by
  have b:=h x (by simp);have c:=Nq l fun y a=>h y (by simp[a]);rw[lI,aW];omega
def AA(a:List (List Nat))(j:Nat)(c:j<=6):0<=fU a j/\fU a j<=10000:=by
 unfold fU;have:=Nq ((a.take j).map iZ) (fun x b=>by obtain⟨r,_,rfl⟩:=List.mem_map.1 b;exact IQ r);rw[aj,aN]at this;omega
def PD{x:Int}(a:1<=x)(b:x<=4500):sub x 0=x:=by unfold sub sat;omega
def ye{a:List Value}(h:a.length=86):(Tryz.prog.info? 145).map (·.size)=some a.toArray.size:=by
 rw[bj,h];kernel_rfl
def ZK(node x y wd:Int)(n:Nat):∀d∈IE node x y wd n,ln d:=by
 intro d hd;unfold IE at hd;simp only[aw]at hd;rcases hd with rfl|rfl|rfl|rfl|rfl|rfl|hd
 .exact .i _ _
 .exact .s _
 .exact .i _ _
 .exact .i _ _
 .exact .i _ _
 .exact .i _ _
 .exact IG (aQ.1 (bu 0 0).p d hd)
def dS:D->Bool
 |.i _ _=>true
 |.z=>true
 |.s _=>true
 |.b _=>true
 |.l _ _=>true
 |_=>false
def mS(node x y w wd:Int)(n:Nat):∀d∈mR node x y w wd n,ln d:=by
 intro d e;have f:=List.all_eq_true.1 (show(mR node x y w wd n).all dS=true from rfl) d e;cases d with
 |i k n=>exact .i _ _
 |z=>exact .z
 |s x=>exact .s _
 |b x=>exact .b _
 |l sz a=>
  have h:sz=58/\a=[IE node x y wd n]:=by simpa[mR,pF,Ng,uR,bh,iN]using e
  obtain⟨rfl,rfl⟩:=h;exact .l 58 _ (by simp) (by decide) (fun i r j d c g=>by
   match i,c with
   |0,c=>cases c;exact ZK _ _ _ _ _ d (List.mem_of_getElem? g)
   |i+1,c=>simp at c)
 |_=>cases f
def mj(node x y w wd:Int)(n:Nat):(mR node x y w wd n).length=86:=rfl
section
variable{F:Nat->Nat}{w w':World}{g13 g14 n1 n2 n3:Nat}{rA wA:Array Value}{v15 v16 v17 v':Value}{his frs les xs:List Value}
def T1.ZL(h:T1 g13 g14 rA wA n1 n2 n3 v15 v16 v17 his frs les F w)(B:Gk F w)(E:w.grownBy w' v15.ownBlock)(H:w'.ownsRow (g14+1) 2 1 v' (n1+1) xs)(C:jq w v15 v'):T1 g13 g14 rA wA (n1+1) n2 n3 v' v16 v17 xs frs les F w':=by
 have m:=Mv.grown B E h.hz;have D:∀g,v15.ownBlock=some g->g14<g:=fun g e=>by have:=(h.hi.lt g e).1;omega
 have I:=h.lt;exact⟨m.dB h.rb (fun e=>by have:=D _ e;omega),m.dB h.row (fun e=>by have:=D _ e;omega),h.lt,h.W4,h.Tn,H,m.own h.fr (fun g e j=>kT h.fr h.hi (by decide) e j.symm),m.own h.le (fun g e j=>h.ne g j e),iJ B C h.hz,h.fz,h.lz,fun g e=>by
  rcases C with A|⟨J,A,L⟩
  .exact h.ne g (A▸e)
  .rw[A]at e;cases e;exact fun e=>by have:=(h.le.lt _ e).2;omega⟩
def T1.ZM(h:T1 g13 g14 rA wA n1 n2 n3 v15 v16 v17 his frs les F w)(A:Gk F w)(C:w.grownBy w' v16.ownBlock)(D:w'.ownsRow (g14+1) 141 13 v' (n2+1) xs)(E:jq w v16 v'):T1 g13 g14 rA wA n1 (n2+1) n3 v15 v' v17 his xs les F w':=by
 have m:=Mv.grown A C h.fz;have B:∀g,v16.ownBlock=some g->g14<g:=fun g e=>by have:=(h.fr.lt g e).1;omega
 have H:=h.lt;exact⟨m.dB h.rb (fun e=>by have:=B _ e;omega),m.dB h.row (fun e=>by have:=B _ e;omega),h.lt,h.W4,h.Tn,m.own h.hi (fun g e j=>kT h.hi h.fr (by decide) e j.symm),D,m.own h.le (fun g e j=>kT h.le h.fr (by decide) e j.symm),h.hz,iJ A E h.fz,h.lz,h.ne⟩
def T1.ZO(h:T1 g13 g14 rA wA n1 n2 n3 v15 v16 v17 his frs les F w)(C:Gk F w)(H:w.grownBy w' v17.ownBlock)(I:w'.ownsRow (g14+1) 2 1 v' (n3+1) xs)(D:jq w v17 v'):T1 g13 g14 rA wA n1 n2 (n3+1) v15 v16 v' his frs xs F w':=by
 have m:=Mv.grown C H h.lz;have E:∀g,v17.ownBlock=some g->g14<g:=fun g e=>by have:=(h.le.lt g e).1;omega
 have J:=h.lt;exact⟨m.dB h.rb (fun e=>by have:=E _ e;omega),m.dB h.row (fun e=>by have:=E _ e;omega),h.lt,h.W4,h.Tn,m.own h.hi (fun g e j=>h.ne g e j),m.own h.fr (fun g e j=>kT h.fr h.le (by decide) e j.symm),I,h.hz,h.fz,iJ C D h.lz,fun g e A=>by
  rcases D with B|⟨L,B,M⟩
  .exact h.ne g e (B▸A)
  .rw[B]at A;cases A;have:=(h.hi.lt _ e).2;omega⟩
def TO.grown{W:World}{C:Nat->Nat}{B n m e z:Nat}{E H I:Array Value}{A v:Value}{J N:List Value}{L:List (List D)}(h:TO W C B E H I A n J L F w)(M:w.ownsRow (g14+1) e z v m N)(j:∀g,A.ownBlock=some g->g<=g14)(R:B+4<g14)(O:w.grownBy w' v.ownBlock)(P:∀g,v.ownBlock=some g->F g=0):TO W C B E H I A n J L F w':=
 h.mv (Mv.grown h.gk O P) (fun g e=>⟨by have:=(M.lt g e).1;omega,fun Q=>by have:=(M.lt g e).1;have:=j g Q;omega⟩) bO
end
def ZQ{F:Nat->Nat}{w:World}{node x y a wd:Int}{n:Nat}{xs:List Value}(h:RA F w (mR node x y a wd n) xs):xs[70]? =z9:=by
 have b:=h.len;rw[mj]at b;have:=h.at_ 70 (iN 1280) xs[70] rfl (af (by omega));rw[af (by omega)];generalize xs[70]=q at this|-;cases this;rfl
def PE:(Tryz.prog.info? 2).map (fun i=>(i.zero,i.size,i.bytes))=some (some (.int .i64 0),1,8):=by kernel_rfl
def PF:(Tryz.prog.info? 141).map (fun i=>(i.zero,i.size,i.bytes))=some (some (.agg (iy 0)),13,104):=by kernel_rfl
def To(n:Nat):∀k,k<=n->mx (List.replicate n (1280:Int)) k=if k=0 then 0 else 1280
 |0,_=>rfl
 |k+1,b=>by
  have ih:=To n k (by omega);have a:(List.replicate n (1280:Int)).getD k 0=1280:=by simp[ah,show k<n by omega]
  show max (mx (List.replicate n (1280:Int)) k) ((List.replicate n (1280:Int)).getD k 0)=_;rw[ih,a];split<;>split<;>omega
def Tp{w:World}{B k c:Nat}{A:Option Addr}(h:w.ownsRow B 2 1 (.slice A k c) k (List.replicate k z9)):
 lG (w.alloc (.cells #[.slice A k c] 23)) (w.alloc (.cells #[.slice A k c] 23)).heap.size w 1 PB [.slice A k c] [List.replicate k (1280:Int)]:=by
 have d:=h.alloc (.cells #[.slice A k c] 23);have b:k<=c:=by
  obtain⟨g,l,e,b⟩:=aV h;injection e with _ _ m;omega
 refine⟨rfl,?_,fun i r a=>?_⟩
 .intro _;refine⟨w.heap.size,0,rfl,by simp,fun j f=>?_⟩;rw[bc,(aE.new w 23 #[.slice A k c]).cell]
  match j,f with
  |0,_=>rfl
 .match i,a with
  |0,a=>
   cases a;refine⟨A,c,by rw[jO];rfl,by rw[jO];exact b,?_⟩;have e:(List.replicate k (1280:Int)).flatMap PB=List.replicate k (.int .i64 1280):=by
    rw[Tm,adg]
   refine dU.qI (base:=B) (fl:=PB) (e:=2) (n:=k) (c:=c) (fun _=>rfl) (by decide) ?_;rw[e];exact d
  |i+1,a=>simp at a
end
end Go.Abs
namespace Go.Abs
open Go.RowKit Go.Proofs YtkkiefcapbddkaaGreatDoor Mem ep Num
variable{x y:Int}{c g nd:Nat}
section
attribute[local instance] dZ
structure T2(g13 g14:Nat)(rA:Array Value)(nd n:Nat)(A16:Option Addr)(v17:Value)(les:List Value)(C:List Int)(k:Nat)(kvr:Value)(fls:List Value)(Ds:List (List D))(F:Nat->Nat)(w:World):Prop where
 rb:aE w g13 66 rA
 row:aE w g14 70 (xE nd 0 0 0 0 kvr)
 lt:g13<g14
 W4:F g13=0
 Tn:F g14=0
 fr:∀j,j<n->∃g c t,A16=some ⟨g,0,none⟩/\g14<g/\w.heap[g]? =some (.cells c t (0,0))/\n*13<=F g/\F g<=c.size/\∀i v,(iy (C.getD j 0))[i]? =some v->c[j*13+i]? =some v
 le:w.ownsRow (g14+1) 2 1 v17 n les
 kr:w.ownsRow (g14+1) 70 67 kvr k fls
 kz:∀g,kvr.ownBlock=some g->F g=0
 ra:RA F w Ds.flatten fls
 dk:∀d∈Ds.flatten,ln d
section
variable{X Z:Nat->Prop}{F F':Nat->Nat}{w w':World}{g13 g14 nd n k:Nat}{rA:Array Value}{A16:Option Addr}{v17 kvr:Value}{les fls:List Value}{C:List Int}{Ds:List (List D)}
def T2.mv(h:T2 g13 g14 rA nd n A16 v17 les C k kvr fls Ds F w)(E:Gk F w)(m:Mv X Z F w F' w')
 (B:∀g,X g->g14<g/\v17.ownBlock≠some g/\kvr.ownBlock≠some g)(D:∀g,Z g->g14<g/\kvr.ownBlock≠some g):T2 g13 g14 rA nd n A16 v17 les C k kvr fls Ds F' w':=by
 have S:=h.lt;have I:=h.rb.lt;have J:=h.row.lt;refine⟨m.dB h.rb (fun e=>by have:=(B _ e).1;omega),m.dB h.row (fun e=>by have:=(B _ e).1;omega),h.lt,m.zero _ I h.W4 (fun e=>by have:=(D _ e).1;omega),m.zero _ J h.Tn (fun e=>by have:=(D _ e).1;omega),fun j L=>?_,
  m.own h.le (fun g A e=>(B g e).2.1 A),m.own h.kr (fun g A e=>(B g e).2.2 A),m.Ti h.kr h.kz (fun g A e=>(D g e).2 A),h.ra.move (m.kept E) h.dk,h.dk⟩
 obtain⟨g,c,t,e,A,M,N,O,P⟩:=h.fr j L;have Q:0<F g:=by omega
 obtain⟨H,R⟩:=m.kept E g Q;exact⟨g,c,t,e,A,R.trans M,by rw[H];exact N,by rw[H];exact O,P⟩
def T2.q(h:T2 g13 g14 rA nd n A16 v17 les C k kvr fls Ds F w){j:Nat}(A:j<n):∃g,A16=some ⟨g,0,none⟩/\RD F w (.q 13 [uR (C.getD j 0)] 0 0) (.pointer (some ⟨g,j*13,none⟩))/\w.rangeAt g (j*13) (iy (C.getD j 0)).toList:=by
 obtain⟨g,c,t,e,I,B,J,E,D⟩:=h.fr j A;refine⟨g,e,X0 B (by have:(j+1)*13<=n*13:=Nat.mul_le_mul_right _ A;omega) E D,fun i v H=>?_⟩;rw[jG w g _ c t (0,0) B];exact D i v (by simpa using H)
def T2.start{n1 L:Nat}{B:Nat}{Y:Array Value}{v15:Value}{N:List Value}(h:T1 g13 g14 rA Y n1 n L v15 (.slice A16 n B) v17 N ((List.range n).flatMap fun j=>(iy (C.getD j 0)).toList) les F w)(hn:L=n)(hw:Y=xE nd 0 0 0 0 zn)(hk:Gk F w):
 ∃F' Z,Mv no Z F w F' w/\(∀g,Z g->g14<g/\(Value.slice A16 n B).ownBlock=some g)/\T2 g13 g14 rA nd n A16 v17 les C 0 zn [] [] F' w:=by
 subst hn hw;rcases h.fr.2 with⟨hv,h0⟩|⟨g,cap,D,hv,h1,h2,h3,h4,h5,h6⟩
 .refine⟨F,no,Mv.quiet hk (Below.refl _ _),fun g O=>O.elim,h.rb,h.row,h.lt,h.W4,h.Tn,fun j M=>by omega,h.le,dl _ _ _ _,fun g O=>(by cases O),RA.nil _ _,fun d P=>(by cases P)⟩
 .injection hv with q1 q2 q3;subst q1 q3;have Q:=h.fz g rfl;have R:=aE.lt (t:=141) (cs:=D) h2;have a5:=h.lt;refine⟨up F g (L*13),fun b=>b=g,Mv.up hk Q R,fun b S=>by rw[S];exact⟨by omega,rfl⟩,h.rb,h.row,h.lt,?_,?_,fun j M=>⟨g,D,141,rfl,by omega,h2,by rw[aR];exact ae _,?_,fun i v E=>?_⟩,h.le,dl _ _ _ _,fun b S=>(by cases S),RA.nil _ _,fun d P=>(by cases P)⟩
  .rw[bI _ _ _ (by omega)];exact h.W4
  .rw[bI _ _ _ (by omega)];exact h.Tn
  .rw[aR,h5];exact aC _ h3
  .have T:∀(m:Nat) (f:Nat->Array Value),(∀j,(f j).size=13)->∀(j i:Nat) (v:Value),j<m->(f j)[i]? =some v->((List.range m).flatMap fun j=>(f j).toList)[j*13+i]? =some v:=by
    intro m f hf;have H:∀m,((List.range m).flatMap fun j=>(f j).toList).length=m*13:=by
     intro m;induction m with
     |zero=>rfl
     |succ m V=>rw[jH,bW,aO,V];simp[hf];omega
    induction m with
    |zero=>intro j i v M;omega
    |succ m ih=>
     intro j i v M E;have A:=H m;rw[jH,bW];have am:i<13:=by rw[<-hf j];exact(aP.1 E).1
     by_cases I:j<m
     .have:(j+1)*13<=m*13:=Nat.mul_le_mul_right _ I;rw[an (by rw[A];omega)];exact ih j i v I E
     .have W:j=m:=by omega
      subst W;rw[ay (by rw[A];omega),A,Nat.add_sub_cancel_left];simpa using E
   have:=T L (fun j=>iy (C.getD j 0)) (fun _=>rfl) j i v M E;rw[<-h6]at this;have J:=(List.getElem?_eq_some_iff.1 this).1;rw[aN]at J;rw[bU (by omega)]at this;simpa using this
def aa2(c:aE w g 2 #[z9])(h:F g=1):RD F w hq (pt g):=by
 have:=RD.q (F:=F) (w:=w) 1 [[iN 1280]] 0 0 g 0 #[z9] 2 (0,0) c (by rw[h];decide) (by rw[h];exact ae 1) (fun r e=>by rw[bG.1 e];rfl) (fun i r j d v a b f=>by
  match i,a with
  |0,a=>
   cases a
   match j,b with
   |0,b=>
    cases b;cases f;exact .i _ _
   |j+1,b=>simp at b
  |i+1,a=>simp at a)
 exact this
def T2.ZR{A j:Nat}(h:T2 g13 g14 rA nd n A16 (A,n,c) ((List.range n).map fun j=>.int .i64 (cB C j)) C k kvr fls Ds F w)(B:j<n):w.cell? (A,j)=some (.int .i64 (cB C j)):=by
 have:=h.le.cells (g:=A) rfl j (cB C j) (by simp[B]);have D:(A:Addr).add j=(A,j):=by cases j<;>simp[Addr.add]
 rwa[D]at this
end
end
section
attribute[local instance] dZ
def qV(a:Nat)(x y w:Int)(b:Value):List Value:=(jx a (.slice none 0 0)).cells++[.int .i64 x,.int .i64 y,.int .i64 w,.int .i64 1280,.int .i64 x,.int .i64 y,.int .i64 w,.int .i64 1280,b,.slice none 0 0]
def PG(node x y w wd:Int)(n:Nat):(pF node x y w wd n).length=67:=rfl
def Lj{F:Nat->Nat}{W:World}{n:Nat}{w wd:Int}{b:List Value}(h:RA F W (pF c x y w wd n) b):∃e,b=qV c x y w e/\e.oneCell'=true/\RD F W (.l 58 [IE c x y wd n]) e:=by
 have k:b.length=67:=by rw[h.len,PG]
 have d:b[65]? =some b[65]:=List.getElem?_eq_getElem (by omega);have f:b[66]? =some b[66]:=List.getElem?_eq_getElem (by omega);have d65:=h.at_ 65 (.l 58 [IE c x y wd n]) b[65] rfl d;have d66:=h.at_ 66 .z b[66] rfl f;refine⟨b[65],?_,h.one _ (ag d),d65⟩;have g:=h.take 65;have j:=ku (show((pF c x y w wd n).take 65).all dP=true from rfl) g;have i:b[66]=.slice none 0 0:=by
  generalize b[66]=q at d66|-;cases d66;rfl
 have a:b=b.take 65++[b[65],b[66]]:=by
  conv=>lhs;rw[<-fV 65 b]
  congr 1
  rw[bQ (by omega),bQ (by omega),jC (by omega)]
 rw[i,j]at a;generalize b[65]=e at a|-;rw[a];rfl
def C2{F:Nat->Nat}{W:World}{a n:Nat}{w wd:Int}{b:List Value}(h:RA F W (mR a x y w wd n) b):RA F W (pF a x y w wd n) (b.take 67):=h.take 67
def PH(a:Nat)(x y w:Int)(b:Value):(qV a x y w b).length=67:=rfl
def PI(a:Nat)(x y w:Int){c:Value}(h:c.oneCell'=true):∀u∈qV a x y w c,u.oneCell'=true:=by
 intro u d;rcases aJ.1 d with h1|h1
 .exact Bc.pV (b:=jx a (.slice none 0 0)) ⟨bu _ _,rfl⟩ u h1
 .simp only[aw,bB,eA]at h1;rcases h1 with rfl|rfl|rfl|rfl|rfl|rfl|rfl|rfl|rfl|rfl;all_goals first|exact h|rfl
def AB(a:Nat)(x y w wd:Int)(n:Nat):∀d∈pF a x y w wd n,ln d:=fun d b=>mS a x y w wd n d (List.mem_append_left _ b)
def C3(nd:Nat)(x y w h:Int)(a:Value):(xE nd x y w h a)[66]? =some a:=rfl
def Tq(nd:Nat)(x y w h:Int)(a v:Value):(xE nd x y w h a).setIfInBounds 66 v=xE nd x y w h v:=rfl
def zFr:Array Value:=(tI.cells++([zQ,zQ,zQ,zQ,zQ,zQ,zQ,zQ,zn,zn]:List Value)).toArray
def C4:(Tryz.prog.info? 70).map (fun i=>(i.zero,i.size,i.bytes))=some (some (.agg zFr),67,560):=by kernel_rfl
end
section
attribute[local instance] dZ
section
variable{F:Nat->Nat}{w w':World}{g13 g14 nd n k:Nat}{rA:Array Value}{A16:Option Addr}{v17 kvr v':Value}{les fls ys:List Value}{C:List Int}{Ds:List (List D)}{Dn:List D}
def T2.push(h:T2 g13 g14 rA nd n A16 v17 les C k kvr fls Ds F w)(J:Gk F w)(Q:w.grownBy w' kvr.ownBlock)(M:w'.ownsRow (g14+1) 70 67 v' (k+1) (fls++ys))(R:jq w kvr v')(S:RA F w Dn ys)(N:∀d∈Dn,ln d):
 Mv (fun b=>b=g14) no F w' F (w'.setCell (g14,66) v')/\T2 g13 g14 rA nd n A16 v17 les C (k+1) v' (fls++ys) (Ds++[Dn]) F (w'.setCell (g14,66) v'):=by
 have m:=Mv.grown J Q h.kz;have O:∀g,kvr.ownBlock=some g->g14<g:=fun g e=>by have:=(h.kr.lt g e).1;omega
 have h1:=h.lt;have hC:=fp.setCell w' (g14,66) v';have D:=Mv.dA m.gk hC h.Tn;have E:=m.dB h.row (fun e=>by have:=O _ e;omega);have T:=iJ J R h.kz;refine⟨D,D.dB (m.dB h.rb (fun e=>by have:=O _ e;omega)) (fun e=>by have e:g13=g14:=e;omega),?_,h.lt,h.W4,h.Tn,fun j V=>?_,?_,?_,T,?_,?_⟩
 .have:=E.put 66 v';rw[Tq]at this;exact this
 .obtain⟨g,c,t,e,L,P,W,X,Y⟩:=h.fr j V;have Z:0<F g:=by omega
  exact⟨g,c,t,e,L,(D.dJ g (by
   have:=(aP.1 P).1;have:=m.size;omega) (fun e=>by have e:g=g14:=e;omega)).trans (((m.kept J) g Z).2.trans P),W,X,Y⟩
 .exact D.own (m.own h.le (fun g e B=>kT h.le h.kr (by decide) e B.symm)) (fun g e B=>by have B:g=g14:=B;have:=(h.le.lt g e).1;omega)
 .exact D.own M (fun g e B=>by have B:g=g14:=B;have:=(M.lt g e).1;omega)
 .rw[lg];have ha:=h.ra.app S;have H:∀d∈Ds.flatten++Dn,ln d:=fun d A=>by
   rcases aJ.1 A with A|A
   .exact h.dk d A
   .exact N d A
  have:=(ha.move (m.kept J) H).move (D.kept m.gk) H;simpa using this
 .intro d I;rw[lg]at I;rcases aJ.1 I with A|A
  .exact h.dk d A
  .exact N d (by simpa using A)
end
def dM{w:World}{a sz n:Nat}{e t:TypeId}{v:Value}{f:List Value}{i:Array Value}(h:w.ownsRow a e sz v n f)(j:aE w g t i)(b:e≠t):v.ownBlock≠some g:=by
 intro d;rcases h.2 with⟨rfl,-⟩|⟨l,cap,m,rfl,-,o,-⟩
 .cases d
 .have p:l=g:=by simpa[Value.ownBlock]using d
  subst p;have c:=o.symm.trans j;injection c with c;injection c with _ q;exact b q
def Fb{w:World}{i:Nat}{t:TypeId}{a:Array Value}{v:Value}(h:aE w g t a)(d:a[i]? =some v):w.setCell (g,i) v=w:=by
 have e:w.heap.modify g (fun|.cells c elem frozen=>.cells (if(none:Option (List Nat)).isSome then c else c.setIfInBounds i v) elem frozen|o=>o)=w.heap:=by
  apply Fw;intro j;rw[nC];by_cases f:g=j
  .subst f;rw[aS rfl,h];have b:=(Array.getElem?_eq_some_iff.1 d);obtain⟨b,m⟩:=b;have:a.setIfInBounds i v=a:=by
    apply Fw;intro k;rw[dc];by_cases l:i=k
    .subst l;rw[aS rfl,aS b,d]
    .rw[aI l]
   simp[this]
  .rw[aI f]
 unfold World.setCell;cases w;simp only at e|-
 congr 1
def IR(a:Int)(C:List Int)(c:Nat)(b:List Nat)(y:Int)(k:Nat):jN a C c b y (k+1)=jN a C c b y k++[pF ((c+2*k:Nat):Int) (cB C k) y (C.getD k 0) ((b.getD k 0:Nat)*a) (b.getD k 0)]:=by
 unfold jN;rw[jH,b9];rfl
end
section
attribute[local instance] dZ
def BG(nd:Nat)(y s h:Int)(kv:Value):List Value:=(wq nd (.slice none 0 0)).cells++[.int .i64 0,.int .i64 y,.int .i64 s,.int .i64 h,.int .i64 0,.int .i64 y,.int .i64 s,.int .i64 h,.slice none 0 0,kv]
def Tx(nd:Nat)(y s h:Int)(kv:Value):(BG nd y s h kv).length=67:=rfl
def Ty(nd:Nat)(y s h:Int){kv:Value}(a:kv.oneCell'=true):∀u∈BG nd y s h kv,u.oneCell'=true:=by
 intro u c;rcases aJ.1 c with h1|h1
 .exact Bc.pV (b:=wq nd zn) ⟨bu _ _,rfl⟩ u h1
 .simp only[aw,bB,eA]at h1;rcases h1 with rfl|rfl|rfl|rfl|rfl|rfl|rfl|rfl|rfl|rfl;all_goals first|exact a|rfl
def W9{F:Nat->Nat}{w:World}{s h:Int}{cells:List (List D)}{kv:Value}(a:RD F w (fJ cells) kv):RA F w (C1 nd y s h cells) (BG nd y s h kv):=by
 have b:RA F w (iN 4::iN nd::iN nd::(bh 5 0++([.s [],.z]++([iN 0,iN y,iN s,iN h]++([iN 0,iN y,iN s,iN h]++[.z]))))) ((iN 4::iN nd::iN nd::(bh 5 0++([.s [],.z]++([iN 0,iN y,iN s,iN h]++([iN 0,iN y,iN s,iN h]++[.z]))))).map dV):=nr rfl;exact b.app (RA.cons a (RA.nil F w))
def AI(a:Int)(C:List Int)(b:Nat)(c:List Nat)(y:Int)(k:Nat):(jN a C b c y k).length=k/\∀r∈jN a C b c y k,r.length=67:=by
 refine⟨by simp[jN],fun r d=>?_⟩;obtain⟨j,_,rfl⟩:=List.mem_map.1 d;rfl
def IW(nd:Int)(y s h:Int){cells:List (List D)}(a:∀r∈cells,r.length=67/\∀d∈r,ln d):∀d∈C1 nd y s h cells,ln d:=by
 intro d hd;unfold C1 at hd;simp only[aw,aJ,bB,eA]at hd;rcases hd with rfl|rfl|rfl|hd|(rfl|rfl)|(rfl|rfl|rfl|rfl)|(rfl|rfl|rfl|rfl)|rfl|rfl
 .exact .i _ _
 .exact .i _ _
 .exact .i _ _
 .exact IG (aQ.1 (bu _ _).p d hd)
 .exact .s _
 .exact .z
 .exact .i _ _
 .exact .i _ _
 .exact .i _ _
 .exact .i _ _
 .exact .i _ _
 .exact .i _ _
 .exact .i _ _
 .exact .i _ _
 .exact .z
 .cases cells with
  |nil=>exact .z
  |cons r t=>exact .l 67 _ (by simp) (by decide) (fun i row j d b c=>(a row (List.mem_of_getElem? b)).2 d (List.mem_of_getElem? c))
def wD(a:Int)(C:List Int)(b:Nat)(c:List Nat)(y:Int)(k:Nat):∀r∈jN a C b c y k,r.length=67/\∀d∈r,ln d:=fun r e=>by
 obtain⟨j,_,rfl⟩:=List.mem_map.1 e;exact⟨rfl,AB _ _ _ _ _ _⟩
def uZ{F:Nat->Nat}{w:World}{n:Nat}{kv:Value}{fl:List Value}{Ds:List (List D)}(s:Gk F w)(h:w.ownsRow c 70 67 kv n fl)(x:∀g,kv.ownBlock=some g->F g=0)(i:RA F w Ds.flatten fl)(u:Ds.length=n)(j:∀r∈Ds,r.length=67)(y:∀d∈Ds.flatten,ln d)(e:n=0->kv=zn):
 ∃v Z,Mv no Z F w v w/\(∀g,Z g->kv.ownBlock=some g)/\RD v w (fJ Ds) kv:=by
 rcases h.2 with⟨a,k⟩|⟨g,cap,l,a,E,A,G,H,I,J⟩
 .refine⟨F,no,Mv.quiet s (Below.refl _ _),fun g C=>C.elim,?_⟩;have:Ds=[]:=List.eq_nil_of_length_eq_zero (by omega);rw[this,a];exact .z
 .have f:F g=0:=x g (by rw[a];rfl);have m:=aE.lt (t:=70) (cs:=l) A;rw[a]at h;have o:∀r∈Ds,∀d∈r,ln d:=fun r i d p=>y d (List.mem_flatten.2 ⟨r,i,p⟩);have:=RA.row h f u j i o;refine⟨up F g (n*67),fun b=>b=g,Mv.up s f m,fun b q=>by have q:b=g:=q;rw[q,a];rfl,?_⟩;rw[a];cases Ds with
  |nil=>
   have k:=e u.symm;rw[a]at k;cases k
  |cons r t=>exact this.1
section
variable{W:World}{F0 F:Nat->Nat}{B n:Nat}{lA bA iA:Array Value}{kv v':Value}{fl ys:List Value}{Ds:List (List D)}{Dn:List D}{w w':World}
def TO.push(h:TO W F0 B lA bA iA kv n fl Ds F w)(N:w.grownBy w' kv.ownBlock)(J:w'.ownsRow (B+5) 70 67 v' (n+1) (fl++ys))(O:jq w kv v')(P:RA F w Dn ys)(L:∀d∈Dn,ln d):
 TO W F0 B lA bA iA v' (n+1) (fl++ys) (Ds++[Dn]) F (w'.setCell (B+4,1) v'):=by
 have H:=h.gk;have m:=Mv.grown H N h.oz;have C:∀g,kv.ownBlock=some g->B+4<g:=fun g e=>by have:=(h.o.lt g e).1;omega
 have hC:=fp.setCell w' (B+4,1) v';have A:=Mv.dA m.gk hC (h.z 4 (by decide));have Q:=iJ H O h.oz;have T:=h.c.lt;have R:aE w' (B+4) 247 #[zn,kv,zn,zQ]:=m.dB h.c (fun e=>by have:=C _ e;omega);have I:aE (w'.setCell (B+4,1) v') (B+4) 247 #[zn,v',zn,zQ]:=R.put 1 v';refine⟨A.gk,?_,h.fs,?_,?_,?_,?_,I,h.z,?_,Q,?_,?_⟩
 .refine A.below (m.below h.bl (by omega) (fun b e=>by have:=C b e;omega)) (by have:=m.size;omega) (fun b e=>by have e:b=B+4:=e;omega)
 .exact A.dB (m.dB h.l (fun e=>by have:=C _ e;omega)) (fun e=>by have e:B=B+4:=e;omega)
 .exact A.dB (m.dB h.b (fun e=>by have:=C _ e;omega)) (fun e=>by have e:B+1=B+4:=e;omega)
 .exact A.dB (m.dB h.i (fun e=>by have:=C _ e;omega)) (fun e=>by have e:B+2=B+4:=e;omega)
 .exact A.dB (m.dB h.r (fun e=>by have:=C _ e;omega)) (fun e=>by have e:B+3=B+4:=e;omega)
 .exact A.own J (fun g e M=>by have M:g=B+4:=M;have:=(J.lt g e).1;omega)
 .rw[lg];have S:=h.ra.app P;have D:∀d∈Ds.flatten++Dn,ln d:=fun d j=>by
   rcases aJ.1 j with j|j
   .exact h.dk d j
   .exact L d j
  have:=(S.move (m.kept H) D).move (A.kept m.gk) D;simpa using this
 .intro d E;rw[lg]at E;rcases aJ.1 E with j|j
  .exact h.dk d j
  .exact L d (by simpa using j)
end
def Ll(b:Int)(C:List Int)(S:Int)(a:List (List Nat))(i:Nat):fN b C S a (i+1)=fN b C S a i++[C1 (sr 2 a i) (fU a i) S (iZ (a.getD i [])) (jN b C (sr 2 a i+1) (a.getD i []) (fU a i) (a.getD i []).length)]:=by
 unfold fN;rw[jH,b9];rfl
def C6(a:Int)(C:List Int)(S:Int)(b:List (List Nat))(i:Nat):(fN a C S b i).length=i/\∀r∈fN a C S b i,r.length=67:=by
 refine⟨by simp[fN],fun r c=>?_⟩;obtain⟨j,_,rfl⟩:=List.mem_map.1 c;rfl
def AJ{a:List (List Nat)}{i:Nat}{b:List Nat}(h:a[i]? =some b)(c:a.length<=6):add (fU a i) (iZ b)=fU a (i+1):=by
 have d:=(List.getElem?_eq_some_iff.1 h).1;have f:=AA a i (by omega);have g:=IQ b;have e:fU a (i+1)=fU a i+iZ b:=by
  unfold fU;rw[bJ,h,List.map_append,xt];simp
 rw[e];unfold add sat;omega
def IX{l:List (List D)}(h:∀r∈l,r.length=67/\∀d∈r,ln d):ln (fJ l):=by
 cases l with
 |nil=>exact .z
 |cons r t=>exact .l 67 _ (by simp) (by decide) (fun i row j d a b=>(h row (List.mem_of_getElem? a)).2 d (List.mem_of_getElem? b))
def Tz(a:Int)(C:List Int)(S:Int)(b:List (List Nat))(i:Nat):∀r∈fN a C S b i,r.length=67/\∀d∈r,ln d:=fun r c=>by
 obtain⟨j,_,rfl⟩:=List.mem_map.1 c;exact⟨rfl,IW _ _ _ _ (wD _ _ _ _ _ _)⟩
def PM(a:0<=x)(b:x<=100000):sub x 0=x:=by unfold sub sat;omega
def oy{a b c:World}(h:fp g a b)(k:fp g b c):fp g a c:=⟨k.os.trans h.os,k.tape.trans h.tape,k.output.trans h.output,k.size.trans h.size,fun i d=>(k.other i d).trans (h.other i d)⟩
def aa8(nd:Nat)(y s h:Int)(kv:Value):List Value:=(wq nd (.slice none 0 0)).cells++[.int .i64 0,.int .i64 y,.int .i64 s,.int .i64 h,.int .i64 0,.int .i64 0,.int .i64 0,.int .i64 0,.slice none 0 0,kv]
def PN{w:World}{kv:Value}(h:aE w g 70 (xE nd 0 0 0 0 kv))(y s a:Int):
 fp g w ((((w.setCell (g,57) zQ).setCell (g,58) y).setCell (g,59) s).setCell (g,60) a)/\aE ((((w.setCell (g,57) zQ).setCell (g,58) y).setCell (g,59) s).setCell (g,60) a) g 70 (aa8 nd y s a kv).toArray:=
 ⟨oy (oy (oy (fp.setCell _ ⟨g,57,none⟩ _) (fp.setCell _ ⟨g,58,none⟩ _)) (fp.setCell _ ⟨g,59,none⟩ _)) (fp.setCell _ ⟨g,60,none⟩ _),(((h.put 57 (.int .i64 0)).put 58 (.int .i64 y)).put 59 (.int .i64 s)).put 60 (.int .i64 a)⟩
def PO{w:World}{kv:Value}{s a:Int}(h:aE w g 70 (aa8 nd y s a kv).toArray):
 fp g w ((((w.setCell (g,61) zQ).setCell (g,62) y).setCell (g,63) s).setCell (g,64) a)/\aE ((((w.setCell (g,61) zQ).setCell (g,62) y).setCell (g,63) s).setCell (g,64) a) g 70 (BG nd y s a kv).toArray:=
 ⟨oy (oy (oy (fp.setCell _ ⟨g,61,none⟩ _) (fp.setCell _ ⟨g,62,none⟩ _)) (fp.setCell _ ⟨g,63,none⟩ _)) (fp.setCell _ ⟨g,64,none⟩ _),(((h.put 61 (.int .i64 0)).put 62 (.int .i64 y)).put 63 (.int .i64 s)).put 64 (.int .i64 a)⟩
