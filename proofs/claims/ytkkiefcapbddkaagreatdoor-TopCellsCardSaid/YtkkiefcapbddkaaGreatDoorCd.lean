/- part of topCells.proved -/
import Derived.Test.YtkkiefcapbddkaaGreatDoorNa
import Derived.Test.YtkkiefcapbddkaaGreatDoorNb
import Derived.Test.YtkkiefcapbddkaaGreatDoorTh
set_option linter.all false
set_option maxRecDepth 1000000
set_option maxHeartbeats 0
noncomputable section
namespace Go.Abs
open Go.RowKit Go.Proofs YtkkiefcapbddkaaGreatDoor Mem ep
variable{F:Nat->Nat}
section
def pY[de]{l:List (FuncId×(List V->Option V))}(b:∀p∈l,kS tp p.1 p.2)(a:de.G=gS){k:Nat}{f:FuncId}{args:List V}{y:V}(c:iS args=some args)(h:BD (gR l) k f args y=true):fW tp f/\PC tp f args y:=
 Zf (RI (fun p d=>by
  rcases aJ.1 (show p∈List.append l RL++Vp from d)with h|h
  .rcases aJ.1 (show p∈l++RL from h)with h|h
   .exact b p h
   .exact MM a p h
  .exact MI a p h) a) (Ek _ rfl) c h
def K7(a e:de){F:Nat->Nat}{w:World}{b:List D}{f:List Value}(h: @RA a F w b f)(g:jw b=true): @RA e F w (@kC a b) f:=by
 rw[@ou a b];refine @RA.mk e F w _ f (by rw[aj];exact @RA.len a _ _ _ _ h) (fun i d v c j=>?_);rw[ai]at c;cases hq:b[i]? with
 |none=>rw[hq]at c;cases c
 |some d0=>
  rw[hq]at c;cases c;exact K5 a e (@RA.at_ a _ _ _ _ h i d0 v hq j) (jW g d0 (List.mem_of_getElem? hq))
def mQ(a c:de){w:World}{b:List D}{e:List Value}(h: @RA c F w (@kC a b) e)(g: @uP a b)(j:jw b=true): @RA a F w b e:=by
 rw[@ou a b]at h;refine @RA.mk a F w _ e (by have:= @RA.len c _ _ _ _ h;rwa[aj]at this) (fun i d v f k=>?_);exact Ag a c (@RA.at_ c _ _ _ _ h i (@pD a d) v (by rw[ai,f];rfl) k) d rfl (@uQ a _ g d (List.mem_of_getElem? f)) (jW j d (List.mem_of_getElem? f))
@[reducible] noncomputable def fY (adv x y w node:Int):de where
 v:=fun i=>match i with|1=>adv|2=>x|3=>y|4=>w|12=>node|13=>node+1|_=>0
 f:=fun _ _ _=>0
 d:=fun _=>.z
 G:=gS
section
variable(adv x y w node:Int)
def vC1: @de.v (fY adv x y w node) 1=adv:=rfl
def vC2: @de.v (fY adv x y w node) 2=x:=rfl
def vC3: @de.v (fY adv x y w node) 3=y:=rfl
def vC4: @de.v (fY adv x y w node) 4=w:=rfl
def WK: @de.v (fY adv x y w node) 12=node:=rfl
def WL: @de.v (fY adv x y w node) 13=node+1:=rfl
def E4(n:Nat): @Ex.val (fY adv x y w node) (SZ n)=n*adv:=by
 letI:=fY adv x y w node
 induction n with
 |zero=>simp[SZ,Ex.val]
 |succ n ih=>
  show(SZ n).val+Ze.val=_;rw[ih];have:Ze.val=adv:=by
   show(adv*1024).tdiv 1024=adv;exact Int.mul_tdiv_cancel adv (by decide)
  rw[this,Int.natCast_succ,Int.add_mul,Int.one_mul]
end
def nI(adv:Int):List D:=[iN 1048576,iN 6400,.l 1 [[iN adv]]]
def Ng(node:Int):List D:=iN 5::iN node::iN node::(bh 6 4278190335++[.s [],.z])
def IE(node x y wd:Int)(n:Nat):List D:=iN (node+1)::.s (List.replicate n (.c 119))::iN x::iN y::iN wd::iN 1280::bh 0 0
def uR(w:Int):List D:=[iN 0,iN 0,iN 0,iN 0,iN 0,iN 0,iN 0,iN 0,iN 0,iN 0,iN 0,iN 0,iN w]
def pF(node x y w wd:Int)(n:Nat):List D:=Ng node++([iN x,iN y,iN w,iN 1280]++([iN x,iN y,iN w,iN 1280]++[.l 58 [IE node x y wd n],.z]))
def mR(node x y w wd:Int)(n:Nat):List D:=pF node x y w wd n++([iN x,iN y,iN w,iN 1280]++(uR w++[iN 1280,.z]))
def ZB(n:Nat):Pv (wd n)=List.replicate n (.c 119):=by
 unfold Pv;rw[E1,adg];rfl
section
variable{adv x y w:Int}{node:Nat}
def wg(n:Nat):mO (x6 node (wd n))= @kC (fY adv x y w node) (kZ n):=by
 simp[x6,mO,ng,ZB,kZ,Ww,kC,jv,pD,bh,Pu,Ex.val,WK,WL,iN,show Pv eQ=[]from rfl]
def wh(n:Nat):jw (kZ n)=true:=by
 simp[kZ,Ww,jw,jA,pX,bh,Pu,iN]
def E5(a:node<=4000)(n:Nat): @uP (fY adv x y w node) (kZ n):=by
 simp[kZ,Ww,uP,pE,Bw,bh,Pu,iN,Ex.val,WK,WL];omega
def Pw(n:Nat): @kC (fY adv x y w node) (match xC n with|.a l=>l|_=>[])=mR node x y w (n*adv) n:=by
 have c:=E4 adv x y w node n;have b:y+1280-y=1280:=by omega
 simp only[xC,CO,mR,pF,Nf,Ng,gly,IE,tG,uR,cX,cY,cW,Pu,bh,iN,hEx,et,dt,kC,jv,pD,Ex.val,vC1,vC2,vC3,vC4,WK,WL,c,Int.add_zero,Jl,Int.sub_zero,adh,b];rfl
def Px(n:Nat): @kC (fY adv x y w node) (match xD n with|.a l=>l|_=>[])=mR node x y w (n*adv) n:=by
 have c:=E4 adv x y w node n;have b:y+1280-y=1280:=by omega
 simp only[xD,CO,mR,pF,Nf,Ng,gly,IE,tG,uR,cX,cY,cW,Pu,bh,iN,hEx,et,dt,kC,jv,pD,Ex.val,vC1,vC2,vC3,vC4,WK,WL,c,Int.add_zero,Jl,Int.sub_zero,adh,b]
def IF(n:Nat)(b c d:D)(e:pX b=true)(f:pX c=true)(g:pX d=true):jw (match CO n b c d with|.a l=>l|_=>[])=true:=by
 simp[CO,Nf,gly,tG,cX,cY,cW,jw,jA,pX,bh,Pu,iN,e,f,g]
def S1{n:Nat}(c:1<=n)(d:n<=9)(adv x y w:Int)(node:Int): @PC (fY adv x y w node) tp 55 (ol n .np) (xC n)/\ @PC (fY adv x y w node) tp 55 (ol n hq) (xD n)/\ @PC (fY adv x y w node) tp 320 [pW,.a (kZ n)] (sJ n):=by
 letI:=fY adv x y w node
 have b:de.G=gS:=rfl;have:n=1\/n=2\/n=3\/n=4\/n=5\/n=6\/n=7\/n=8\/n=9:=by omega
 rcases this with rfl|rfl|rfl|rfl|rfl|rfl|rfl|rfl|rfl
 .exact⟨(pY bH b rfl Zg).2,(pY bH b rfl Zp).2,(jy bH b Wx).2⟩
 .exact⟨(pY bH b rfl Zh).2,(pY bH b rfl Zq).2,(jy bH b Wy).2⟩
 .exact⟨(pY bH b rfl Zi).2,(pY bH b rfl Zr).2,(jy bH b Wz).2⟩
 .exact⟨(pY bH b rfl Zj).2,(pY bH b rfl Zs).2,(jy bH b WA).2⟩
 .exact⟨(pY bH b rfl Zk).2,(pY bH b rfl Zt).2,(jy bH b WB).2⟩
 .exact⟨(pY bH b rfl Zl).2,(pY bH b rfl Zu).2,(jy bH b WC).2⟩
 .exact⟨(pY bH b rfl Zm).2,(pY bH b rfl Zv).2,(jy bH b WD).2⟩
 .exact⟨(pY bH b rfl Zn).2,(pY bH b rfl Zw).2,(jy bH b WE).2⟩
 .exact⟨(pY bH b rfl Zo).2,(pY bH b rfl Zx).2,(jy bH b WI).2⟩
end
end
section
attribute[local instance] dZ
def sn:List D:=[iN 1048576,iN 6400,.l 1 [[.x .i64 (.v 1) 1 500]]]
theorem CS(adv x y w node:Int):nI adv= @kC (fY adv x y w node) sn:=by
 simp[nI,sn,kC,jv,pD,Ex.val,vC1,iN]
theorem Nh{adv:Int}(a:1<=adv)(b:adv<=500)(x y w node:Int): @uP (fY adv x y w node) sn:=by
 simp[sn,uP,pE,Bw,Ex.val,vC1,iN];omega
theorem rZ:jw sn=true:=by simp[sn,jw,jA,pX,iN]
section
variable{adv x y w:Int}{node n:Nat}(ha1:1<=adv)(ha2:adv<=500)(hn1:1<=n)(hn9:n<=9)(hnd:node<=4000)
include ha1 ha2 hn1 hn9 hnd
theorem Ni{W:World}(q:Gk F W){j k:List Value}(l:RA F W (nI adv) j)(m:RA F W (mO (x6 node (wd n))) k):
 Calls tp 320 #[.agg j.toArray,.agg k.toArray] W fun e g=>∃f,e=tQ #[.int .i64 (n*adv),.int .i64 (n*adv)]/\Below W W g/\Gk f g/\∀b,b<W.heap.size->f b=F b:=by
 have r:=(S1 hn1 hn9 adv 0 0 0 node).2.2;rw[CS adv 0 0 0 node]at l;rw[wg (adv:=adv) (x:=0) (y:=0) (w:=0) n]at m;have h:=mQ (fY adv 0 0 0 node) dZ l (Nh ha1 ha2 _ _ _ _) rZ;have i:=mQ (fY adv 0 0 0 node) dZ m (E5 hnd n) (wh n)
 letI:=fY adv 0 0 0 node
 refine(r.mH rfl q (GL.cons h.gv (GL.cons i.gv GL.nil))).mono ?_;rintro e g ⟨v,f,rfl,s,t,u,z⟩;refine⟨f,?_,t,u,z⟩;have o:=E4 adv 0 0 0 node n;cases s with
 |tu _ A d p=>
  match A,d with
  |[a,b],_=>
   have B:=(p 0 _ a rfl rfl).cG;have C:=(p 1 _ b rfl rfl).cG;cases B;cases C;have D:Ex.val (.add (SZ n) (.c 0))=n*adv:=by show Ex.val (SZ n)+0=_;rw[o,Int.add_zero]
   have E:Ex.val (.add (.add (.c 0) (SZ n)) (.c 0))=n*adv:=by show 0+Ex.val (SZ n)+0=_;rw[o,Int.add_zero,Jl]
   rw[D,E]
omit ha1 ha2 hn1 hn9 hnd in
theorem S2:D.q 13 [uR w] 0 0= @pD (fY adv x y w node) (.q 13 [tG] 0 0):=by
 simp[uR,tG,pD,jv,kC,cW,Ex.val,vC4,iN]
omit ha1 ha2 hn1 hn9 hnd in
theorem ZC(hw1:1<=w)(hw2:w<=4500): @Bw (fY adv x y w node) (.q 13 [tG] 0 0):=by
 simp[tG,Bw,pE,uP,cW,Ex.val,vC4,iN];omega
variable(hx0:0<=x)(hx1:x<=30000)(hy0:0<=y)(hy1:y<=10000)(hw1:1<=w)(hw2:w<=4500)
include hx0 hx1 hy0 hy1 hw1 hw2
theorem S3{W:World}(C:Gk F W){D E:List Value}(G:RA F W (nI adv) D)(H:RA F W (mO (x6 node (wd n))) E){g o:Nat}(f:RD F W (.q 13 [uR w] 0 0) (.pointer (g,o)))
 (h:Value)(r:h=.pointer none\/RD F W hq h):
 Calls tp 55 #[.agg D.toArray,.agg E.toArray,x,y,.agg #[w,zQ,false],.agg #[.pointer (g,o),h,.pointer none]] W
  fun e k=>∃j I,e=.returned (.agg I.toArray)/\RA j k (mR node x y w (n*adv) n) I/\Below W W k/\Gk j k/\∀b,b<W.heap.size->j b=F b:=by
 have J:=S1 hn1 hn9 adv x y w node;rw[CS adv x y w node]at G;rw[wg (adv:=adv) (x:=x) (y:=y) (w:=w) n]at H;rw[S2 (adv:=adv) (x:=x) (y:=y) (node:=node)]at f;have l:=mQ (fY adv x y w node) dZ G (Nh ha1 ha2 _ _ _ _) rZ;have m:=mQ (fY adv x y w node) dZ H (E5 hnd n) (wh n);have p:=Ag (fY adv x y w node) dZ f (.q 13 [tG] 0 0) rfl (ZC hw1 hw2) (by simp[pX,jA,jw,tG,cW,iN]);have K:= @RD.x (fY adv x y w node) F W .i64 (.v 2) 0 30000 hx0 hx1;have L:= @RD.x (fY adv x y w node) F W .i64 (.v 3) 0 10000 hy0 hy1;have M:= @RD.x (fY adv x y w node) F W .i64 (.v 4) 1 4500 hw1 hw2;have c: @RA (fY adv x y w node) F W [cW,iN 0,.b false] [w,zQ,false]:= @RA.cons (fY adv x y w node) _ _ _ _ _ _ M (@RA.cons (fY adv x y w node) _ _ _ _ _ _ (@RD.i (fY adv x y w node) _ _ _ _) (@RA.cons (fY adv x y w node) _ _ _ _ _ _ (@RD.b (fY adv x y w node) _ _ _) (@RA.nil (fY adv x y w node) F W)));rcases r with rfl|r
 .letI:=fY adv x y w node
  have a:=RA.cons p (RA.cons .np (RA.cons .np (RA.nil F W)));refine(J.1.mH rfl C (GL.cons l.gv (GL.cons m.gv (GL.cons (.d _ _ K) (GL.cons (.d _ _ L) (GL.cons c.gv (GL.cons a.gv GL.nil))))))).mono ?_;rintro e k ⟨v,j,rfl,h,s,t,u⟩;obtain⟨z,rfl,A⟩:=GV.ra h;refine⟨j,z,rfl,?_,s,t,u⟩;have:=K7 (fY adv x y w node) dZ A (IF n _ _ _ rfl rfl rfl);have e:=Pw (adv:=adv) (x:=x) (y:=y) (w:=w) (node:=node) n;exact e▸this
 .have B: @RD (fY adv x y w node) F W hq h:=Ag (fY adv x y w node) dZ r hq rfl (by simp[hq,Bw,pE,uP,iN]) rfl
  letI:=fY adv x y w node
  have a:=RA.cons p (RA.cons B (RA.cons .np (RA.nil F W)));refine(J.2.1.mH rfl C (GL.cons l.gv (GL.cons m.gv (GL.cons (.d _ _ K) (GL.cons (.d _ _ L) (GL.cons c.gv (GL.cons a.gv GL.nil))))))).mono ?_;rintro e k ⟨v,j,rfl,h,s,t,u⟩;obtain⟨z,rfl,A⟩:=GV.ra h;refine⟨j,z,rfl,?_,s,t,u⟩;have:=K7 (fY adv x y w node) dZ A (IF n _ _ _ rfl rfl rfl);have e:=Px (adv:=adv) (x:=x) (y:=y) (w:=w) (node:=node) n;exact e▸this
end
end
section
attribute[local instance] dZ
mutual
def l9:Bt->Prop
 |.mk _ _ _ s _ a=>ik s/\gV a
def gV:List Bt->Prop
 |[]=>True
 |k::r=>l9 k/\gV r
end
def l9.is{t:Bt}(h:l9 t):ik t.sty:=by
 cases t with
 |mk a b c s x k=>exact h.1
def IG{d:D}(h:dP d=true):ln d:=by
 cases d with
 |i k n=>exact .i k n
 |b x=>exact .b x
 |s x=>exact .s x
 |z=>exact .z
 |np=>exact .np
 |nf=>exact .nf
 |nm=>exact .nm
 |_=>cases h
mutual
def o9:∀(t:Bt),l9 t->∀d∈mO t,ln d
 |.mk a b c s x e,h,d,hd=>by
  unfold l9 at h;unfold mO at hd;simp only[aw,aJ,bB,eA]at hd;rcases hd with rfl|rfl|rfl|hd|rfl|rfl
  .exact .i _ _
  .exact .i _ _
  .exact .i _ _
  .exact IG (aQ.1 h.1.p d hd)
  .exact .s _
  .cases e with
   |nil=>exact .z
   |cons k r=>exact Nj (k::r) (by simp) h.2
def Nj:∀(l:List Bt),l≠[]->gV l->ln (.l 57 (ng l))
 |[],c,_=>absurd rfl c
 |k::r,_,h=>by
  unfold gV at h;have e:=o9 k h.1;refine .l 57 _ (by simp[ng]) (by decide) (fun i row j d a b=>?_);unfold ng at a;cases i with
  |zero=>
   cases a;exact e d (List.mem_of_getElem? b)
  |succ i=>
   rw[ap]at a;exact CT r h.2 row (List.mem_of_getElem? a) d (List.mem_of_getElem? b)
def CT:∀(l:List Bt),gV l->∀row∈ng l,∀d∈row,ln d
 |[],_,row,a,d,b=>by unfold ng at a;cases a
 |k::r,h,row,a,d,b=>by
  unfold gV at h;unfold ng at a;rcases aw.1 a with rfl|a
  .exact o9 k h.1 d b
  .exact CT r h.2 row a d b
end
def il(l:List Bt):D:=match l with|[]=>.z|k::r=>.l 57 (mO k::ng r)
def IH{l:List Bt}(h:gV l):ln (il l):=by
 cases l with
 |nil=>exact .z
 |cons k r=>exact Nj (k::r) (by simp) h
def kD{w:World}{l:List Bt}{v:Value}(h:RD F w (il l) v):
 ∃A c,v=.slice A l.length c/\(l≠[]->∃b a,A=some ⟨b,a,none⟩/\b<w.heap.size/\0<F b/\∀(i:Nat) t,l[i]? =some t->∃d,w.rangeAt b (a+i*57) d/\RA F w (mO t) d):=by
 cases l with
 |nil=>cases h;exact⟨none,0,rfl,fun e=>absurd rfl e⟩
 |cons k r=>
  have f:mO k::ng r=(k::r).map mO:=by rw[Aj];rfl
  obtain⟨b,a,cap,rfl,o,g,j,m⟩:=eV h (by simp);refine⟨_,cap,by rw[f,List.length_map],fun _=>⟨b,a,rfl,g,j (by decide),fun i t n=>m i (mO t) ?_⟩⟩;rw[f,List.getElem?_map,n];rfl
def uS:∀(a:List ByteArray) (n:Nat),gV (lF n a)
 |[],n=>by unfold lF gV;trivial
 |s::r,n=>by
  unfold lF gV;refine⟨?_,uS r (n+2)⟩;unfold x6 l9;refine⟨bu _ _,?_⟩;unfold gV l9;refine⟨⟨bu _ _,?_⟩,?_⟩<;>(unfold gV;trivial)
def ox:∀(R:List (List ByteArray)) (n:Nat),gV (gQ n R)
 |[],n=>by unfold gQ gV;trivial
 |s::r,n=>by
  unfold gQ gV;refine⟨?_,ox r _⟩;unfold Pe l9;exact⟨bu _ _,uS s _⟩
def nz(R:List (List ByteArray)):l9 (Io R):=by
 unfold Io l9;exact⟨bu _ _,ox R 2⟩
def WM(R:List (List ByteArray)):l9 (M5 R):=by
 unfold M5 l9;refine⟨bu _ _,?_⟩;unfold gV;refine⟨nz R,?_⟩;unfold gV;trivial
def uT:∀(b:List Nat) (a i:Nat),(lF a (b.map wd))[i]? =(b[i]?).map fun n=>x6 (a+2*i) (wd n)
 |[],a,i=>by simp[lF]
 |n::b,a,0=>by simp[lF]
 |n::b,a,i+1=>by
  rw[bV];unfold lF;rw[ap,uT b (a+2) i,List.getElem?_cons_succ]
  congr 2
  funext m
  congr 1
  omega
