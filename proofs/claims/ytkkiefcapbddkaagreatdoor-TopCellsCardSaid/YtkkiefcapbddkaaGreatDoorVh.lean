/- part of topCells.proved -/
import Derived.Test.YtkkiefcapbddkaaGreatDoorVa
set_option linter.all false
set_option maxRecDepth 1000000
set_option maxHeartbeats 0
noncomputable section
namespace Go.Abs
open Go.RowKit Go.Proofs YtkkiefcapbddkaaGreatDoor Mem ep Ord
variable{j:World}
section
attribute[local instance] dZ
structure By(L:List Nd)(A:Option Addr)(c:Nat)(fv av:Value)(gt B:Nat)(w0:World)(F:Nat->Nat)(w:World):Prop where
 gk:Gk F w
 nd:RD F w (.l 9 (L.map x5)) (.slice A L.length c)
 fi:RD F w (.l 2 me) fv
 au:RD F w (.l 2 o0) av
 tb:aE w gt 48 #[.slice A L.length c]
 tz:F gt=0
 bl:Below B w0 w
 sz:B<=w.heap.size
 lo:B<=gt
 ne:L≠[]
structure Pf(L:List Nd)(A:Option Addr)(c:Nat)(av:Value)(gt B:Nat)(w0:World)(F:Nat->Nat)(w:World):Prop where
 gk:Gk F w
 nd:RD F w (.l 9 (L.map x5)) (.slice A L.length c)
 au:RD F w (.l 2 o0) av
 tb:aE w gt 48 #[.slice A L.length c]
 tz:F gt=0
 bl:Below B w0 w
 sz:B<=w.heap.size
 lo:B<=gt
 ne:L≠[]
def SE:Bv (.l 2 me):=iV (by decide+kernel)
def zX:Bv (.l 2 o0):=iV (by decide+kernel)
section
variable{L:List Nd}{A:Option Addr}{c:Nat}{fv av:Value}{gt B:Nat}{w0:World}{F:Nat->Nat}{w:World}
def By.mv{C:Nat->Nat}(h:By L A c fv av gt B w0 F w)(D:Kept F w C j)(g:Gk C j)(tb:aE j gt 48 #[.slice A L.length c])(tz:C gt=0)(bl:Below B w j):By L A c fv av gt B w0 C j:=
 ⟨g,h.nd.move D (gL h.ne).ok,h.fi.move D SE.ok,h.au.move D zX.ok,tb,tz,h.bl.trans bl,Nat.le_trans h.sz bl.size,h.lo,h.ne⟩
def By.kI{F':Nat->Nat}{j:World}(h:By L A c fv av gt B w0 F w)(C:Below w w j)(g:Gk F' j)(D:∀b,b<w.heap.size->F' b=F b):By L A c fv av gt B w0 F' j:=
 h.mv (Kept.kI h.gk C D) g (h.tb.below C h.tb.lt) ((D gt h.tb.lt).trans h.tz) (C.mono h.sz)
def Pf.kI{F':Nat->Nat}{C:World}(h:Pf L A c av gt B w0 F w)(j:Below w w C)(g:Gk F' C)(D:∀b,b<w.heap.size->F' b=F b):Pf L A c av gt B w0 F' C:=
 have E:=Kept.kI h.gk j D
 ⟨g,h.nd.move E (gL h.ne).ok,h.au.move E zX.ok,h.tb.below j h.tb.lt,(D gt h.tb.lt).trans h.tz,h.bl.trans (j.mono h.sz),Nat.le_trans h.sz j.size,h.lo,h.ne⟩
def Pf.first(h:Pf L A c av gt B w0 F w)(j:RD F w (.l 2 me) fv):By L A c fv av gt B w0 F w:=⟨h.gk,h.nd,j,h.au,h.tb,h.tz,h.bl,h.sz,h.lo,h.ne⟩
def By.drew(h:By L A c fv av gt B w0 F w):By L A c fv av gt B w0 F w.drew:=h.mv (Kept.drew F w) h.gk.drew h.tb.drew h.tz ((Below.refl _ _).drew)
def By.alloc(h:By L A c fv av gt B w0 F w)(o:Obj):By L A c fv av gt B w0 F (w.alloc o):=h.mv (Kept.alloc h.gk o) (h.gk.alloc o) (h.tb.alloc o) h.tz ((Below.refl _ _).alloc h.sz o)
def By.dA{C:World}{g:Nat}(h:By L A c fv av gt B w0 F w)(j:fp g w C)(D:F g=0)(E:B<=g)(H:gt≠g):By L A c fv av gt B w0 F C:=h.mv (Kept.dA j D) (h.gk.dA j D) (h.tb.dA j H) h.tz (j.below E)
def By.grown{C:World}{v:Value}{e:TypeId}{z n:Nat}{xs:List Value}(h:By L A c fv av gt B w0 F w)(D:w.ownsRow B e z v n xs)(j:w.grownBy C v.ownBlock)(H:48≠e)(E:∀g,v.ownBlock=some g->F g=0):By L A c fv av gt B w0 F C:=
 h.mv (Kept.grown h.gk j E) (h.gk.grown j E) (h.tb.grown D j H) h.tz (eo D j h.sz)
end
def SF[de]{w:World}{F:Nat->Nat}(p:Gk F w)(l:List Nat){f:Array Value}(g:f=(l.map fun c=>Value.int .i32 (Int.ofNat c)).toArray){cap:Nat}(C:l.length<=cap){w3:World}(y:w.drew.alloc (.cells (f++Array.replicate (cap-f.size) (.int .i32 0)) 21)=w3):
 RD (up F w l.length) w3 (.l 1 (l.map fun n=>[.i .i32 (Int.ofNat n)])) (w.heap.size,l.length,cap)/\Gk (up F w l.length) w3/\Kept F w (up F w l.length) w3/\Below w w w3:=by
 have z:=p.fresh _ (Nat.le_refl _);have h:f.size=l.length:=by rw[g];simp
 have s:Below w w w3:=by rw[<-y];exact((Below.refl w w).drew).alloc (ae _) _
 have a:w3.heap[w.heap.size]? =some (.cells (f++Array.replicate (cap-f.size) (.int .i32 0)) 21 (0,0)):=by rw[<-y];exact dy w.drew _
 have t:=(Array.getElem?_eq_some_iff.1 a).1;have u:=p.below s (fun b q=>p.lt q);have:=RD.l (F:=up F w l.length) (w:=w3) 1 (l.map fun n=>[D.i .i32 (Int.ofNat n)]) w 0 cap _ 21 (0,0) a (by rw[aR,aj];omega) (by rw[aR,jZ,oD,h];omega) (by rw[jZ,oD,h];omega) (by rw[aj];exact C)
  (fun r E=>by obtain⟨n,_,rfl⟩:=List.mem_map.1 E;rfl)
  (
   fun i r j d v m o x=>by
   rw[ai]at m;cases hq:l[i]? with
   |none=>rw[hq]at m;cases m
   |some n=>
    rw[hq]at m;cases m
    match j,o with
    |0,o=>
     cases o;have G:=(List.getElem?_eq_some_iff.1 hq).1;rw[show 0+i*1+0=i by omega,Ug (by omega),g]at x;simp[hq]at x;subst x;exact .i _ _
    |j+1,o=>simp at o)
 rw[aj]at this;exact⟨this,u.up z t,fun b q=>⟨bI _ _ _ (fun e=>by rw[e,z]at q;omega),s.block b (p.lt q)⟩,s⟩
structure EW(L:List Nd)(S:Nd->List D):Prop where
 text:∀(n:Nat) x,L[n]? =some x->x.kind=2->0<n/\S x=bh 0 0
 elem:∀(n:Nat) x,L[n]? =some x->x.kind=1->∃k:jc,x.name=bN k.nm/\S x=k.sty/\(k.top=true↔n=0)
 kind:∀(n:Nat) x,L[n]? =some x->x.kind=1\/x.kind=2
 is:∀x,ik (S x)
 par:∀(n:Nat) x,L[n]? =some x->0<n->∃(p:Nat) (y:Nd),x.par=p/\p<n/\L[p]? =some y/\y.kind=1
structure CF(L:List Nd)(bn on c:Nat)(rv:Value)(gt B:Nat)(w0:World)(F:Nat->Nat)(w:World):Prop where
 gk:Gk F w
 nd:RD F w (.l 9 (L.map x5)) (bn,on,L.length,c)
 ru:RD F w qG rv
 tb:aE w gt 48 #[(bn,on,L.length,c)]
 tz:F gt=0
 bl:Below B w0 w
 sz:B<=w.heap.size
 lo:B<=gt
 ne:L≠[]
section
variable{L:List Nd}{bn on c:Nat}{rv:Value}{gt B:Nat}{w0:World}{F:Nat->Nat}{w:World}
def CF.mv{C:Nat->Nat}(h:CF L bn on c rv gt B w0 F w)(D:Kept F w C j)(g:Gk C j)(tb:aE j gt 48 #[(bn,on,L.length,c)])(tz:C gt=0)(bl:Below B w j):CF L bn on c rv gt B w0 C j:=
 ⟨g,h.nd.move D (gL h.ne).ok,h.ru.move D If.ok,tb,tz,h.bl.trans bl,Nat.le_trans h.sz bl.size,h.lo,h.ne⟩
def CF.kI{F':Nat->Nat}{j:World}(h:CF L bn on c rv gt B w0 F w)(C:Below w w j)(g:Gk F' j)(D:∀b,b<w.heap.size->F' b=F b):CF L bn on c rv gt B w0 F' j:=
 h.mv (Kept.kI h.gk C D) g (h.tb.below C h.tb.lt) ((D gt h.tb.lt).trans h.tz) (C.mono h.sz)
def CF.alloc(h:CF L bn on c rv gt B w0 F w)(o:Obj):CF L bn on c rv gt B w0 F (w.alloc o):=h.mv (Kept.alloc h.gk o) (h.gk.alloc o) (h.tb.alloc o) h.tz ((Below.refl _ _).alloc h.sz o)
def CF.dA{C:World}{g:Nat}(h:CF L bn on c rv gt B w0 F w)(j:fp g w C)(D:F g=0)(E:B<=g)(H:gt≠g):CF L bn on c rv gt B w0 F C:=h.mv (Kept.dA j D) (h.gk.dA j D) (h.tb.dA j H) h.tz (j.below E)
def CF.grown{C:World}{v:Value}{e:TypeId}{z n:Nat}{xs:List Value}(h:CF L bn on c rv gt B w0 F w)(D:w.ownsRow B e z v n xs)(j:w.grownBy C v.ownBlock)(H:48≠e)(E:∀g,v.ownBlock=some g->F g=0):CF L bn on c rv gt B w0 F C:=
 h.mv (Kept.grown h.gk j E) (h.gk.grown j E) (h.tb.grown D j H) h.tz (eo D j h.sz)
def CF.node(h:CF L bn on c rv gt B w0 F w){n:Nat}{x:Nd}(C:L[n]? =some x):w.rangeAt bn (on+n*9) x.arr.toList:=by
 obtain⟨b,D,cap,j,-,-,-,E⟩:=eV h.nd (by simpa using h.ne);rw[aj]at j;cases j;obtain⟨J,H,I⟩:=E n (x5 x) (by rw[ai,C];rfl);have:=ku (MY x) I;rw[Si]at this;subst this;exact H
end
structure EX(L:List Nd)(bn on c:Nat)(rv:Value)(gt B:Nat)(w0:World)(ov:Value)(k:Nat)(xs:List Value)(gx gp gs:Nat)(xa pa sa:Array Value)(F:Nat->Nat)(w:World):Prop where
 n:CF L bn on c rv gt B w0 F w
 o:w.ownsRow B 63 52 ov k xs
 z:Hid (∀g,ov.ownBlock=some g->F g=0)
 x:aE w gx 121 xa
 p:aE w gp 63 pa
 s:aE w gs 63 sa
 pz:F gp=0
 sz:F gs=0
 n1:gx≠gp
 n2:gx≠gs
 n3:gp≠gs
 n4:B≠gp
 n5:B≠gs
 l1:B<=gp
 l2:B<=gs
 o1:∀g,ov.ownBlock=some g->g≠gp
 o2:∀g,ov.ownBlock=some g->g≠gs
section
variable{L:List Nd}{bn on c:Nat}{rv ov:Value}{B k gx gp gs:Nat}{w0:World}{xs:List Value}{xa pa sa:Array Value}{F:Nat->Nat}{w:World}
def EX.kI{F':Nat->Nat}{D:World}(h:EX L bn on c rv B B w0 ov k xs gx gp gs xa pa sa F w)(j:Below w w D)(g:Gk F' D)(C:∀b,b<w.heap.size->F' b=F b):EX L bn on c rv B B w0 ov k xs gx gp gs xa pa sa F' D:=
 ⟨h.n.kI j g C,ca h.o j,fun g E=>by rw[C g (h.o.lt g E).2];exact h.z.out g E,h.x.below j h.x.lt,h.p.below j h.p.lt,h.s.below j h.s.lt,(C gp h.p.lt).trans h.pz,(C gs h.s.lt).trans h.sz,h.n1,h.n2,h.n3,h.n4,h.n5,h.l1,h.l2,h.o1,h.o2⟩
def EX.fresh{j:World}{o:Obj}(h:EX L bn on c rv B B w0 ov k xs gx gp gs xa pa sa F w)(C:fp w (w.alloc o) j):EX L bn on c rv B B w0 ov k xs gx gp gs xa pa sa F j:=
 h.kI ((((Below.refl w w).alloc (ae _) o)).trans (C.below (Nat.le_refl _))) ((h.n.gk.alloc o).dA C (h.n.gk.fresh _ (Nat.le_refl _))) (fun _ _=>rfl)
def EX.put{w':World}{C:Array Value}(h:EX L bn on c rv B B w0 ov k xs gx gp gs xa pa sa F w)(D:aE w' gs 63 C)(j:fp gs w w'):EX L bn on c rv B B w0 ov k xs gx gp gs xa pa C F w':=
 ⟨h.n.dA j h.sz h.l2 h.n5,aZ h.o (fun g E _=>j.other g (h.o2 g E)),h.z,h.x.dA j h.n2,h.p.dA j h.n3,D,h.pz,h.sz,h.n1,h.n2,h.n3,h.n4,h.n5,h.l1,h.l2,h.o1,h.o2⟩
def EX.abI{C:World}{D:Array Value}(h:EX L bn on c rv B B w0 ov k xs gx gp gs xa pa sa F w)(E:aE C gp 63 D)(j:fp gp w C):EX L bn on c rv B B w0 ov k xs gx gp gs xa D sa F C:=
 ⟨h.n.dA j h.pz h.l1 h.n4,aZ h.o (fun g H _=>j.other g (h.o1 g H)),h.z,h.x.dA j h.n1,E,h.s.dA j (Ne.symm h.n3),h.pz,h.sz,h.n1,h.n2,h.n3,h.n4,h.n5,h.l1,h.l2,h.o1,h.o2⟩
def EX.dJ{g:Nat}{t:TypeId}{C:Array Value}{H:Nat->Nat}(E:Below w w j)(D:aE w g t C):aE j g t C:=D.below E D.lt
end
def jc.Ir:jc->Int|.root=>1|.tab=>4|.tr=>5|.td=>6
def jc.bg:jc->Int|.td=>4278190335|_=>0
def EY(k:jc):k.sty=bh k.Ir k.bg:=by cases k<;>rfl
def M9(k:jc):k.st 0=bh 0 0:=by cases k<;>rfl
def vZ(k:jc)(i:Nat):Bv (.l 7 [k.val i]):=by
 have:sm (.l 7 [k.val i])=true:=by
  unfold jc.val;split<;>decide+kernel
 exact iV this
def z7{F:Nat->Nat}{w:World}{a b c d:Int}{v:List D}{e:List Value}(h:RA F w [iN a,iN b,iN c,iN d,.b false,.l 7 [v]] e):∃f,RD F w (.l 7 [v]) f/\e=[.int .i64 a,.int .i64 b,.int .i64 c,.int .i64 d,.bool false,f]:=by
 match e,h with
 |[p,q,r,s,t,u5],h=>
  have g:=h.at_ 0 _ _ rfl rfl;have i:=h.at_ 1 _ _ rfl rfl;have j:=h.at_ 2 _ _ rfl rfl;have m:=h.at_ 3 _ _ rfl rfl;have n:=h.at_ 4 _ _ rfl rfl;have o:=h.at_ 5 _ _ rfl rfl;cases g;cases i;cases j;cases m;cases n;exact⟨u5,o,rfl⟩
 |[],h=>have:=h.len;simp at this
 |[_],h=>have:=h.len;simp at this
 |[_,_],h=>have:=h.len;simp at this
 |[_,_,_],h=>have:=h.len;simp at this
 |[_,_,_,_],h=>have:=h.len;simp at this
 |[_,_,_,_,_],h=>have:=h.len;simp at this
 |_::_::_::_::_::_::_::_,h=>have:=h.len;simp at this
def Pg:∀r∈kV++[qN],r.length=3:=by decide+kernel
def KX:∀r∈kV++[qN],∀d∈r,ln d:=fun r a d b=>(iV (oa (tq (l:=kV++[qN]) (by decide+kernel) r a) d b)).ok
def Pj:(Tryz.prog.info? 63).map (fun i=>(i.zero,i.size,i.bytes))=some (some (.agg (db Bo)),52,384):=by kernel_rfl
def Pk:(Tryz.prog.info? 219).map (fun i=>(i.zero,i.size,i.bytes))=some (some (.agg #[zQ,zn,zn]),3,56):=by kernel_rfl
def jV{F:Nat->Nat}{w:World}{z:Nat}{r:List (List D)}{v:Value}(h:RD F w (.l z r) v):∃A n c,v=.slice A n c:=by
 cases h with
 |lz=>exact⟨_,_,_,rfl⟩
 |l=>exact⟨_,_,_,rfl⟩
def CG:∀d∈kV.flatten,ln d:=fun d a=>(iV (oa (l:=kV.flatten) (by decide+kernel) d a)).ok
def rW{l:List (List D)}{n:Nat}{d:D}(h:d∈(l.take n).flatten):d∈l.flatten:=by
 obtain⟨r,a,b⟩:=List.mem_flatten.1 h;exact vA.2 ⟨r,List.mem_of_mem_take a,b⟩
def CH:∀d∈(kV++[qN]).flatten,ln d:=fun d a=>(iV (oa (l:=(kV++[qN]).flatten) (by decide+kernel) d a)).ok
def Pm:PC tp 47 [zj jh] nW:=(Vq bH rfl zl).2
def Pn:PC tp 46 [nW] eE:=(Vq bH rfl ul).2
def Wj{F:Nat->Nat}{w:World}{v:Value}(e:GV (gF F) (fun _=>none) w eE v):∃a,v=.tuple #[a,zQ]/\RD F w (.l 2 me) a:=by
 cases e with
 |tu _ f g d=>
  match f,g with
  |[a,b],_=>
   have h:=(d 0 _ a rfl rfl).cG;have i:=(d 1 _ b rfl rfl).cG;cases i;exact⟨a,rfl,h⟩
def Is(L:List Nd)(last Ds:List Int)(hb:uo L last)(hD:Deep L Ds)(S:Nd->List D)(am:EW L S)(w:World)(F0:Nat->Nat)(hg0:Gk F0 w)(A:Option Addr)(c:Nat)(av:Value)(hA:RD F0 w (.l 9 (L.map x5)) (.slice A L.length c))(hav:RD F0 w (.l 2 o0) av):
 Calls tp 48 #[.agg #[.slice A L.length c],av] w fun e w'=>∃A' c',e=.returned (.slice A' L.length c')/\Below w w w'/\w'.ownsRow w 63 52 (.slice A' L.length c') L.length (L.flatMap fun x=>(S x).map dV):=by
 have hne:L≠[]:=fun e=>by have:=hb.pos;rw[e]at this;simp at this
 obtain⟨bA,oA,cA,hae,-,-,-,-⟩:=eV hav (by decide);rw[MZ]at hae;subst hae;obtain⟨bn,on,cn,hne2,-,-,-,-⟩:=eV hA (by simpa using hne);rw[aj]at hne2;cases hne2;obtain⟨i9,hi9,qr,hz8,hz7⟩:=info_parts Pk;obtain⟨i6,hi6,hy9,hy8,hy7⟩:=info_parts Pj;replace am:=aU am;have hlen4:=hb.len;go_enter Tryz.func48,Tryz.ntmps48
 go_upto_region 1 with fail
 refine bM (fun Z=>aE Z w 48 #[(bn,on,L.length,c)]/\Below w w Z) ⟨aE.new _ _ _,(Below.refl _ _).alloc (ae _) _⟩ ?_;rintro w1 ⟨hT,hB⟩;have hKp:=Kept.kI (F':=F0) hg0 hB (fun _ _=>rfl);have hg1:=hg0.kept hKp hB.size;have hA1:=hA.move hKp (gL hne).ok;obtain⟨A',c',hAe,hR1⟩:=qM hne hA1;cases hAe;have hav1:=hav.move hKp zX.ok;have tz0:=hg0.fresh _ (Nat.le_refl _);have hs1:=hB.size;obtain⟨B,hBe⟩:=iG w.heap.size;rw[<-hBe]at hT hB tz0 hs1|-;replace hBe:=aU hBe;have e0:=hT.cell 0;go_upto_region 3 with(go_at_call 23;refine(rP L last Ds (bn,on) c w1 hb hD hR1).mono ?_;rintro e w2 ⟨rfl,hb2⟩)
 have hKp2:=Kept.kI (F':=F0) hg1 hb2 (fun _ _=>rfl);have hT2:=hT.below hb2 hT.lt;have hg2:=hg1.kept hKp2 hb2.size;have hA2:=hA1.move hKp2 (gL hne).ok;have hav2:=hav1.move hKp2 zX.ok;have hB2:=hB.trans (hb2.mono (by have:=hT.lt;omega));have hs2:=hB2.size;have hcv:=run_runes_of_string (P:=tp) w2 9 54 21 (bN jh) km gj Bb (by rw[xd];decide);rw[xd]at hcv;have hal:(jh.map fun c=>Value.int .i32 (Int.ofNat c)).toArray.size=jh.length:=by simp
 rw[hal]at hcv;have hcap:=grownCap_ge w2 jh.length 0 21;generalize hca:grownCap w2 jh.length 0 21=cap at*;generalize har:(jh.map fun c=>Value.int .i32 (Int.ofNat c)).toArray=ar at*;obtain⟨w3,hw3⟩:∃w3,w2.drew.alloc (.cells (ar++Array.replicate (cap-jh.length) (.int .i32 0)) 21)=w3:=⟨_,rfl⟩;rw[hw3]at hcv;obtain⟨r1,r2,r3,r4⟩:=SF (w3:=w3) hg2 jh har.symm hcap (by rw[hal];exact hw3);have hA3:=hA2.move r3 (gL hne).ok;have hav3:=hav2.move r3 zX.ok;have hT3:=hT2.below r4 hT2.lt;have hsl:=hT2.lt;have hB3:=hB2.trans (r4.mono (Nat.le_of_lt hsl));have tz3:up F0 w2 jh.length B=0:=by rw[bI _ _ _ (by omega)];exact tz0
 generalize up F0 w2 jh.length=F3 at*;generalize (w2.heap.size)=g3 at*;go_upto_region 5 with(first
  |(go_at_call 113;refine(KR w2).mono ?_;rintro e w' ⟨rfl,rfl⟩)
  |(go_at_call 47;go_loud (refine(Pm.mH rfl r2 (GL.cons (.d _ _ r1) GL.nil)).mono ?_;rintro e w4 ⟨v4,F4,rfl,hv4,W,hg4,a5⟩))
  |(go_at_call 46;go_loud (refine(Pn.mH rfl hg4 (GL.cons hv4 GL.nil)).mono ?_;rintro e w5 ⟨v5,F5,rfl,a9,em,hg5,ut⟩;obtain⟨fv,rfl,hfv⟩:=Wj a9)))
 have hG3:Pf L (bn,on) c (bA,oA,1,cA) B B w F3 w3:=⟨r2,hA3,hav3,hT3,tz3,hB3,by have:=hT3.lt;omega,ae _,hne⟩;have wl:=((hG3.kI W hg4 a5).kI em hg5 ut).first hfv
 obtain⟨bF,oF,cF,hfe,-,hbF,-,hrF⟩:=eV hfv (by decide);rw[CA]at hfe;cases hfe;go_wp2_with fail
 go_loopg [5,33] 9 (fun g v s33 wr=>∃(k:Nat) (F:Nat->Nat) (xs:List Value),g=9-k/\k<=9/\s33=k/\wr.ownsRow B 219 3 v k xs/\RA F wr (kV.take k).flatten xs/\Hid (∀g,v.ownBlock=some g->F g=0)/\By L (bn,on) c (bF,oF,9,cF) (bA,oA,1,cA) B B w F wr)
 case atStart=>exact⟨0,F5,[],rfl,by omega,rfl,dl _ _ _ _,RA.nil _ _,aU (fun g E=>by cases E),wl⟩
 case round=>
  obtain⟨k,F,xs,rfl,hk9,rfl,ho,eq,hz,X⟩:=hrel;obtain⟨A1,c1,rfl,-⟩:=aV ho;by_cases hlt:k<9
  .have e1:decide ((k:Int)<9)=true:=decide_eq_true (by omega);obtain⟨sel,dec,rd,G,hout,rpc,cs1,cr1,dc1,⟨_,_,rfl⟩,⟨_,_,rfl⟩,⟨_,_,rfl⟩⟩:=O5 k hlt;obtain⟨b1,o1,cc1,hfe,-,hbl,-,hrF⟩:=eV X.fi (by decide);rw[CA]at hfe;cases hfe;obtain⟨us,r,t⟩:=hrF k _ G;obtain⟨sv,dv,rfl⟩:∃sv dv,us=[sv,dv]:=by
    match us,t.len with
    |[a,b],_=>exact⟨a,b,rfl⟩
   have q0:=r 0 _ rfl;have q1:=r 1 _ rfl;have wn:=t.at_ 0 _ _ rfl rfl;have ww:=t.at_ 1 _ _ rfl rfl;obtain⟨Q,R,T,rfl⟩:=jV wn;obtain⟨Ad,nd,cd,rfl⟩:=jV ww;go_wp2_with (refine aX 208 rfl ?_)
   refine⟨bY rfl 208 _ rfl bF (oF+k*2) rfl #[.slice Q R T,.slice Ad nd cd] _ r Tryz.underlying208 rfl (by kernel_rfl) ?_⟩;go_wp2_with (refine aX 208 rfl ?_)
   refine⟨dK #[.slice Q R T,.slice Ad nd cd] rfl rfl rfl rfl (aE.new _ _ _) rfl (by kernel_rfl) (by simp[Value.oneCell']) ?_⟩;intro w1 ge H;have qr:=X.gk.fresh _ (Nat.le_refl _);have hG1:=(X.alloc _).dA H qr X.sz (by have:=X.tb.lt;omega);have rg:=aZ (ho.alloc _) (fun g E _=>H.other g (by have:=(ho.lt g E).2;omega));have m:=(Kept.alloc X.gk _).trans (Kept.dA H qr);have dcl:=(iV dc1).ok;replace ww:=ww.move m dcl;replace wn:=wn.move m (iV cs1).ok;replace eq:=eq.move m (fun d hd=>CG d (rW hd));have hg9:=ge.lt;generalize wr.heap.size=g9 at*;have hz1:=hz;clear H m r t q0 q1 G X ho hz qr e1;go_upto_region 8 with fail
   refine a8 ?_;refine dW (S:=fun Z:World=>Z.cell? g9=some (.slice Q R T)/\Z.cell? (g9,1)=some (.slice Ad nd cd)) 999 [1,1,1,1,1,0,1,0,0,1] (by kernel_rfl) (fun _ _ _ _ _ h=>h) (⟨ge.drew.cell 0,ge.drew.cell 1⟩) (fun hS0=>?_);simp only[osq,fL,aF,ap];iterate 5 (apply cU;rfl;(intro w hSw;go_simp;try(with_reducible rfl));simp only[Act.put,zA,zB,zC])
   refine cC rfl rfl (fun K hK=>?_);go_simp
   refine(rpc.mH rfl (hG1.gk.drew) (GL.cons (.d _ _ (ww.move (Kept.drew F w1) dcl)) GL.nil)).mono ?_;rintro e w5 ⟨v5,F5,rfl,a9,em,hk5,ut⟩;have hKp:=(Kept.drew F w1).trans (Kept.kI hG1.gk.drew em ut);have h9:=ge.drew.below em ge.lt;have wl:=(hG1.drew).kI em hk5 ut;have Do:=ca (fS rg) em;replace a9:=a9.cG;obtain⟨A5,n5,c5,rfl⟩:=jV a9;go_wp2_with fail
   refine hK.out _ _ (⟨h9.cell 0,h9.cell 1⟩) (fun _=>?_);clear hK K;(refine gT (v:=.agg #[zQ,(.slice Q R T),(.slice A5 n5 c5)]) (Or.inl ⟨rfl,fun w hSw=>by kernel_rfl⟩) ?_;simp only[Act.put,zA,zB,zC]);refine cC rfl rfl (fun K hK=>?_);refine gK (v:=(w5.heap.size,1,1)) (w':=w5.alloc (.cells #[zQ,(.slice Q R T),(.slice A5 n5 c5)] 219)) (by kernel_rfl) ?_;have g7:=h9.alloc (.cells #[zQ,(.slice Q R T),(.slice A5 n5 c5)] 219);have Y:=df (aE.new w5 219 #[zQ,(.slice Q R T),(.slice A5 n5 c5)]) (news:=[zQ,(.slice Q R T),(.slice A5 n5 c5)]) rfl;have g8:=wl.alloc (.cells #[zQ,(.slice Q R T),(.slice A5 n5 c5)] 219);have ho6:=Do.alloc (.cells #[zQ,(.slice Q R T),(.slice A5 n5 c5)] 219);refine hK.out _ _ (⟨g7.cell 0,g7.cell 1⟩) (fun _=>?_);clear hK K;refine cC rfl rfl (fun K hK=>?_);refine du (w5.alloc (.cells #[zQ,(.slice Q R T),(.slice A5 n5 c5)] 219)) _ _ 215 rfl B 219 i9 (.agg #[zQ,zn,zn]) 3 56 Tryz.underlying215 hi9 qr hz8 hz7 rfl (by decide) (.slice A1 k c1) k _ rfl ho6 w5 1 1 [zQ,(.slice Q R T),(.slice A5 n5 c5)] rfl rfl Y (by intro u hu;simp only[aw,bB,eA]at hu;rcases hu with rfl|rfl|rfl;rfl;rfl;rfl) (by unfold maxLen;omega) (by omega) g8.sz ?_;intro v' w7 ho7 H1 hf7;have In:∀g,(Value.slice A1 k c1).ownBlock=some g->F5 g=0:=fun g E=>by rw[ut g (rg.lt g E).2];exact hz1.out g E
   have hG7:=g8.grown ho6 H1 (by decide) In;have hz7':=aU (iJ g8.gk hf7 In);have hKp7:=(hKp.trans (Kept.alloc wl.gk _)).trans (Kept.grown g8.gk H1 In);have h97:aE w7 g9 208 #[.slice Q R T,.slice Ad nd cd]:=(H1.block g9 g7.lt (fun e=>fM g7 ho6 (by decide) e)).trans g7;refine hK.out _ _ (⟨h97.cell 0,h97.cell 1⟩) (fun _=>?_);clear hK K;(apply cU;rfl;(intro w hSw;go_simp;try(with_reducible rfl));simp only[Act.put,zA,zB,zC]);refine fA (a7 ?_);go_wp2_with fail
   go_roundg (9-(k+1))
   case measure=>omega
   case rel=>
    refine⟨k+1,F5,xs++[.int .i64 0,.slice Q R T,.slice A5 n5 c5],rfl,by omega,by go_num,ho7,?_,hz7',hG7⟩;rw[bJ,hout,List.flatten_append];exact(eq.move hKp7 (fun d hd=>CG d (rW hd))).app (by
     show RA F5 w7 [iN 0,_,_] _;exact RA.cons (.i _ _) (RA.cons (wn.move hKp7 (iV cs1).ok) (RA.cons (a9.move ((Kept.alloc wl.gk _).trans (Kept.grown g8.gk H1 In)) (iV cr1).ok) (RA.nil _ _))))
  .have hk:k=9:=by omega
   subst hk;have hGA:=X;clear X;go_wp2_with fail
   go_loopg [5,49] 1 (fun g v s49 wr=>∃(k:Nat) (F:Nat->Nat) (xs:List Value),g=1-k/\k<=1/\s49=k/\wr.ownsRow B 219 3 v (9+k) xs/\RA F wr ((kV++[qN]).take (9+k)).flatten xs/\Hid (∀g,v.ownBlock=some g->F g=0)/\By L (bn,on) c (bF,oF,9,cF) (bA,oA,1,cA) B B w F wr)
   case atStart=>exact⟨0,F,xs,rfl,by omega,rfl,ho,eq,hz,hGA⟩
   case round=>
    clear hGA eq ho hz;obtain⟨k,F,xs,rfl,hk9,rfl,ho,eq,hz,X⟩:=hrel;obtain⟨A1,c1,rfl,-⟩:=aV ho;by_cases hlt:k<1
    .have UV:k=0:=by omega
     subst UV;have e1:decide (((0:Nat):Int)<1)=true:=by decide
     obtain⟨sel,dec,rd,G,hout,rpc,cs1,cr1,dc1,⟨_,_,rfl⟩,⟨_,_,rfl⟩,⟨_,_,rfl⟩⟩:=O6;obtain⟨b1,o1,cc1,hfe,-,hbl,-,hrF⟩:=eV X.au (by decide);rw[MZ]at hfe;cases hfe;obtain⟨us,r,t⟩:=hrF 0 _ G;obtain⟨sv,dv,rfl⟩:∃sv dv,us=[sv,dv]:=by
      match us,t.len with
      |[a,b],_=>exact⟨a,b,rfl⟩
     have wn:=t.at_ 0 _ _ rfl rfl;have ww:=t.at_ 1 _ _ rfl rfl;obtain⟨Q,R,T,rfl⟩:=jV wn;obtain⟨Ad,nd,cd,rfl⟩:=jV ww;go_wp2_with (refine aX 208 rfl ?_)
     refine⟨bY rfl 208 _ rfl bA (oA+0*2) rfl #[.slice Q R T,.slice Ad nd cd] _ r Tryz.underlying208 rfl (by kernel_rfl) ?_⟩;go_wp2_with (refine aX 208 rfl ?_)
     refine⟨dK #[.slice Q R T,.slice Ad nd cd] rfl rfl rfl rfl (aE.new _ _ _) rfl (by kernel_rfl) (by simp[Value.oneCell']) ?_⟩;intro w1 ge H;have qr:=X.gk.fresh _ (Nat.le_refl _);have hG1:=(X.alloc _).dA H qr X.sz (by have:=X.tb.lt;omega);have rg:=aZ (ho.alloc _) (fun g E _=>H.other g (by have:=(ho.lt g E).2;omega));have m:=(Kept.alloc X.gk _).trans (Kept.dA H qr);have dcl:=(iV dc1).ok;replace ww:=ww.move m dcl;replace wn:=wn.move m (iV cs1).ok;replace eq:=eq.move m (fun d hd=>CH d (rW hd));have hg9:=ge.lt;generalize wr.heap.size=g9 at*;have hz1:=hz;clear H m r t G X ho hz qr e1;go_upto_region 13 with fail
     refine a8 ?_;refine dW (S:=fun Z:World=>Z.cell? g9=some (.slice Q R T)/\Z.cell? (g9,1)=some (.slice Ad nd cd)) 999 [1,1,1,1,1,0,1,0,0,1] (by kernel_rfl) (fun _ _ _ _ _ h=>h) (⟨ge.drew.cell 0,ge.drew.cell 1⟩) (fun hS0=>?_);simp only[osq,fL,aF,ap];iterate 5 (apply cU;rfl;(intro w hSw;go_simp;try(with_reducible rfl));simp only[Act.put,zA,zB,zC])
     refine cC rfl rfl (fun K hK=>?_);go_simp
     refine(rpc.mH rfl (hG1.gk.drew) (GL.cons (.d _ _ (ww.move (Kept.drew F w1) dcl)) GL.nil)).mono ?_;rintro e w5 ⟨v5,F5,rfl,a9,em,hk5,ut⟩;have hKp:=(Kept.drew F w1).trans (Kept.kI hG1.gk.drew em ut);have h9:=ge.drew.below em ge.lt;have wl:=(hG1.drew).kI em hk5 ut;have Do:=ca (fS rg) em;replace a9:=a9.cG;obtain⟨A5,n5,c5,rfl⟩:=jV a9;go_wp2_with fail
     refine hK.out _ _ (⟨h9.cell 0,h9.cell 1⟩) (fun _=>?_);clear hK K;(refine gT (v:=.agg #[zJ,(.slice Q R T),(.slice A5 n5 c5)]) (Or.inl ⟨rfl,fun w hSw=>by kernel_rfl⟩) ?_;simp only[Act.put,zA,zB,zC]);refine cC rfl rfl (fun K hK=>?_);refine gK (v:=(w5.heap.size,1,1)) (w':=w5.alloc (.cells #[zJ,(.slice Q R T),(.slice A5 n5 c5)] 219)) (by kernel_rfl) ?_;have g7:=h9.alloc (.cells #[zJ,(.slice Q R T),(.slice A5 n5 c5)] 219);have Y:=df (aE.new w5 219 #[zJ,(.slice Q R T),(.slice A5 n5 c5)]) (news:=[zJ,(.slice Q R T),(.slice A5 n5 c5)]) rfl;have g8:=wl.alloc (.cells #[zJ,(.slice Q R T),(.slice A5 n5 c5)] 219);have ho6:=Do.alloc (.cells #[zJ,(.slice Q R T),(.slice A5 n5 c5)] 219);refine hK.out _ _ (⟨g7.cell 0,g7.cell 1⟩) (fun _=>?_);clear hK K;refine cC rfl rfl (fun K hK=>?_);refine du (w5.alloc (.cells #[zJ,(.slice Q R T),(.slice A5 n5 c5)] 219)) _ _ 215 rfl B 219 i9 (.agg #[zQ,zn,zn]) 3 56 Tryz.underlying215 hi9 qr hz8 hz7 rfl (by decide) (.slice A1 (9+0) c1) (9+0) _ rfl ho6 w5 1 1 [zJ,(.slice Q R T),(.slice A5 n5 c5)] rfl rfl Y (by intro u hu;simp only[aw,bB,eA]at hu;rcases hu with rfl|rfl|rfl;rfl;rfl;rfl) (by unfold maxLen;omega) (by omega) g8.sz ?_;intro v' w7 ho7 H1 hf7;have In:∀g,(Value.slice A1 (9+0) c1).ownBlock=some g->F5 g=0:=fun g E=>by rw[ut g (rg.lt g E).2];exact hz1.out g E
     have hG7:=g8.grown ho6 H1 (by decide) In;have hz7':=aU (iJ g8.gk hf7 In);have hKp7:=(hKp.trans (Kept.alloc wl.gk _)).trans (Kept.grown g8.gk H1 In);have h97:aE w7 g9 208 #[.slice Q R T,.slice Ad nd cd]:=(H1.block g9 g7.lt (fun e=>fM g7 ho6 (by decide) e)).trans g7;refine hK.out _ _ (⟨h97.cell 0,h97.cell 1⟩) (fun _=>?_);clear hK K;(apply cU;rfl;(intro w hSw;go_simp;try(with_reducible rfl));simp only[Act.put,zA,zB,zC]);refine fA (a7 ?_);go_wp2_with fail
     go_roundg (0)
     case measure=>omega
     case rel=>
      refine⟨1,F5,xs++[.int .i64 1,.slice Q R T,.slice A5 n5 c5],rfl,by omega,by go_num,ho7,?_,hz7',hG7⟩;have e2:((kV++[qN]).take (9+1)).flatten=((kV++[qN]).take (9+0)).flatten++qN:=rfl;rw[e2,<-hout];exact(eq.move hKp7 (fun d hd=>CH d (rW hd))).app (by
       exact RA.cons (.i _ _) (RA.cons (wn.move hKp7 (iV cs1).ok) (RA.cons (a9.move ((Kept.alloc wl.gk _).trans (Kept.grown g8.gk H1 In)) (iV cr1).ok) (RA.nil _ _))))
    .have hk:k=1:=by omega
     subst hk;obtain⟨gr,cr,M,hgrB,-,hgrl⟩:=dL ho (by omega);cases M;have hgz:=hz.out gr rfl;have hnr:B≠gr:=fun e=>fM X.tb ho (by decide) (by rw[e];rfl);obtain⟨hru,hKu⟩:=RA.row (rows:=kV++[qN]) ho hgz rfl Pg eq KX;have hN0:CF L bn on c (gr,9+1,c1) B B w (up F gr ((9+1)*3)) wr:=
      ⟨X.gk.up hgz hgrl,X.nd.move hKu (gL hne).ok,hru,X.tb,by rw[bI _ _ _ hnr];exact X.tz,X.bl,X.sz,X.lo,hne⟩
     clear hru hKu X eq ho hz hgz;generalize up F gr ((9+1)*3)=FN at*;have e2:=hN0.tb.cell 0;go_wp2_with fail
     go_loopg [12,66] L.length (fun g v s66 wr=>∃(k:Nat) (F:Nat->Nat),g=L.length-k/\k<=L.length/\s66=k/\wr.ownsRow B 63 52 v k ((L.take k).flatMap fun x=>(S x).map dV)/\Hid (∀g,v.ownBlock=some g->F g=0)/\CF L bn on c (gr,9+1,c1) B B w F wr)
     case atStart=>exact⟨0,FN,rfl,Nat.zero_le _,rfl,dl _ _ _ _,aU (fun g E=>by cases E),hN0⟩
     case round=>
      clear hN0 e2;obtain⟨k,F,rfl,hk9,rfl,ho,hz,hN⟩:=hrel;obtain⟨A1,c2,rfl,-⟩:=aV ho;by_cases hlt:k<L.length
      .have e1:=lJ k L.length (by omega);obtain⟨x,hx⟩:∃x,L[k]? =some x:=⟨L[k],List.getElem?_eq_getElem hlt⟩;have hrg:=hN.node hx;go_wp2_with (refine aX 121 rfl ?_)
       refine⟨bY rfl 121 _ rfl bn (on+k*9) rfl x.arr _ hrg Tryz.underlying121 rfl (kw _) ?_⟩;go_wp2_with (refine aX 121 rfl ?_)
       refine⟨dK x.arr rfl rfl rfl rfl (aE.new _ _ _) rfl (kw _) (qJ _) ?_⟩;intro w1 hX1 hC1;have hz1:=hN.gk.fresh _ (Nat.le_refl _);have hN1:=(hN.alloc _).dA hC1 hz1 hN.sz (by have:=hN.tb.lt;omega);have rg:=aZ (ho.alloc _) (fun g E _=>hC1.other g (by have:=(ho.lt g E).2;omega));have hg1:=hX1.lt;have hB1:=hN.sz;have ng1:∀g,(Value.slice A1 k c2).ownBlock=some g->g≠wr.heap.size:=fun g E=>by have:=(ho.lt g E).2;omega
       generalize wr.heap.size=gx at*;clear hC1 hN ho hrg;go_wp2_with (refine aX 63 rfl ?_)
       refine⟨dK (db Bo) rfl rfl rfl rfl (aE.new _ _ _) rfl (dG o5) o5.one ?_⟩;intro w2 hP2 hC2;have hz2:=hN1.gk.fresh _ (Nat.le_refl _);have hN2:=(hN1.alloc _).dA hC2 hz2 hN1.sz (by have:=hN1.tb.lt;omega);have ho2:=aZ (rg.alloc _) (fun g E _=>hC2.other g (by have:=(rg.lt g E).2;omega));have hX2:=(hX1.alloc _).dA hC2 (by omega);have hg2:=hP2.lt;have hB2:=hN1.sz;have nxp:gx≠w1.heap.size:=by omega
       have ngp:∀g,(Value.slice A1 k c2).ownBlock=some g->g≠w1.heap.size:=fun g E=>by have:=(rg.lt g E).2;omega
       have nBp:B≠w1.heap.size:=by have:=hN1.tb.lt;omega
       generalize w1.heap.size=gp at*;clear hC2 hN1 rg hX1;rcases cz k with UV|UV
       .have d0:decide (0<(k:Int))=false:=decide_eq_false (by omega);have d1:((k:Int)==0)=true:=by rw[fZ];omega
        have hnk:¬0<k:=by omega
        replace UV:=aU UV;go_wp2_with (refine aX 63 rfl ?_)
        refine⟨eu rfl rfl rfl hP2 Tryz.underlying63 rfl (dG o5) ?_⟩;go_wp2_with (first|(go_at_call 115;go_loud (refine(O7.mH rfl hN2.gk (GL.cons (o5.gv _ _) (GL.cons (.d _ _ (.b true)) GL.nil))).mono ?_;rintro e w4 ⟨vq,F4,rfl,hv4,W,hk4,a5⟩;obtain rfl:=(bu 0 0).inv hv4))|refine dm 63 _ _ rfl rfl ?_)
        refine⟨?_⟩;have N:=hN2.kI W hk4 a5;have WF:=ca ho2 W;have WP:=hX2.below W hX2.lt;have hP4:=hP2.below W hP2.lt;have hz4:Hid (∀g,(Value.slice A1 k c2).ownBlock=some g->F4 g=0):=fun g E=>by rw[a5 g (ho2.lt g E).2];exact hz.out g E
        have hzp4:F4 gp=0:=by rw[a5 gp hP2.lt];exact hz2
        refine dK (db (bh 0 0)) rfl rfl rfl rfl (aE.new _ _ _) rfl (dG (bu 0 0)) (bu 0 0).one ?_;intro w5 hS5 ii;have hz5:=N.gk.fresh _ (Nat.le_refl _);have hN5:=(N.alloc _).dA ii hz5 N.sz (by have:=N.tb.lt;omega);have Do:=aZ (WF.alloc _) (fun g E _=>ii.other g (by have:=(WF.lt g E).2;omega));have hX5:=(WP.alloc _).dA ii (by have:=WP.lt;omega);have hP5:=(hP4.alloc _).dA ii (by have:=hP4.lt;omega);have hB5:=N.sz;have nsp:gp≠w4.heap.size:=by have:=hP4.lt;omega
        have nsx:gx≠w4.heap.size:=by have:=WP.lt;omega
        have ngs:∀g,(Value.slice A1 k c2).ownBlock=some g->g≠w4.heap.size:=fun g E=>by have:=(WF.lt g E).2;omega
        have hgs5:B≠w4.heap.size:=by have:=N.tb.lt;omega
        have hg5:=hS5.lt;generalize w4.heap.size=gs at*;have I:EX L bn on c (gr,9+1,c1) B B w (.slice A1 k c2) k _ gx gp gs x.arr (db (Bo)) (db (bh 0 0)) F4 w5:=⟨hN5,Do,hz4,hX5,hP5,hS5,hzp4,hz5,nxp,nsx,nsp,nBp,by have:=hN5.tb.lt;have:=hg5;exact hgs5,hB2,hB5,ngp,ngs⟩;clear ii N WF WP hP4 W hv4 a5 hk4 hN2 ho2 hX2 hP2 hN5 Do hz4 hX5 hP5 hS5 hzp4 hz5;go_wp2_with (first|(go_at_call 116;go_loud (refine(Wc.mH rfl I.n.gk GL.nil).mono ?_;rintro e w6 ⟨vi,F6,rfl,hv6,hb6,hk6,hf6⟩;obtain rfl:=(bu 0 0).inv hv6))|refine dm 63 _ _ rfl rfl ?_)
        refine⟨?_⟩;have hE6:=I.kI hb6 hk6 hf6;refine dK (db (bh 0 0)) rfl rfl rfl rfl hE6.p (by rw[o5.size,(bu 0 0).size]) (dG (bu 0 0)) (bu 0 0).one ?_;intro w7 hP7 hC7;have hE7:=hE6.abI hP7 hC7;clear I hE6 hP7 hC7 hb6 hk6 hf6 hv6;have un:x.kind=1:=by
         rcases am.out.kind k x hx with h|h
         .exact h
         .have:=(am.out.text k x hx h).1;have:=UV.out;omega
        obtain⟨f,hnm,hSx,htop⟩:=am.out.elem k x hx un;have htop:=htop.2 UV.out;have cx1:w7.cell? gx=zJ:=by rw[hE7.x.cell 0];show some (Value.int .i64 x.kind)=_;rw[un]
        have e48:=hE7.n.tb.cell 0;have hmn:=zR (n:=k) (A:=(bn,on)) (c:=c) (rv:=(gr,9+1,c1)) hx un hlen4 f hnm hE7.n.gk hE7.n.nd hE7.n.ru;go_wp2_with (go_at_call 117;go_loud (refine hmn.mono ?_;rintro e w8 ⟨vm,F8,rfl,q,hb8,hk8,hf8⟩;obtain⟨bm,om,cm,M,-,-,-,-⟩:=eV q (uG f);subst M))
        have hE8:=hE7.kI hb8 hk8 hf8;clear hE7 hb8 hk8 hf8 cx1 e48;rw[<-M9 f]at hE8;have hml:=Ig f;go_loopw [94] (fun s wr=>∃(i:Nat) (F:Nat->Nat),i<=f.iU.length/\s=i/\EX L bn on c (gr,9+1,c1) B B w (.slice A1 k c2) k ((L.take k).flatMap fun x=>(S x).map dV) gx gp gs x.arr (db (bh 0 0)) (db (f.st i)) F wr/\RD F wr (.l 6 f.iU) (bm,om,f.iU.length,cm)) (fun s _=>f.iU.length-(intOf s).toNat)
        case atStart=>exact⟨0,F8,Nat.zero_le _,rfl,hE8,q⟩
        case round=>
         clear hE8 q;obtain⟨i,F,hi,rfl,J,q⟩:=hrel;by_cases hil:i<f.iU.length
         .have e1:=lJ i f.iU.length (by omega);obtain⟨a',b',c',d',G⟩:=Ih f hil;obtain⟨_,_,_,M,-,-,-,hmr⟩:=eV q (uG f);cases M;obtain⟨us,r,t⟩:=hmr i _ G;obtain⟨vv,O,rfl⟩:=z7 t;obtain⟨bv,ov,cv,rfl,-,-,-,-⟩:=eV O (by simp);clear hmr t G;go_wp2_with (refine aX 230 rfl ?_)
          refine⟨bY rfl 230 _ rfl bm (om+i*6) rfl #[a',b',c',d',false,(bv,ov,1,cv)] _ r Tryz.underlying230 rfl (by kernel_rfl) ?_⟩;go_wp2_with (refine aX 230 rfl ?_)
          refine⟨dK #[a',b',c',d',false,(bv,ov,1,cv)] rfl rfl rfl rfl (aE.new _ _ _) rfl (by kernel_rfl) (by simp[Value.oneCell']) ?_⟩;intro w9 hM9 H;have m:=(Kept.alloc J.n.gk _).trans (Kept.dA H (J.n.gk.fresh _ (Nat.le_refl _)));have hE9:=J.fresh H;have hvm9:=q.move m (oZ f).ok;have hvv9:=O.move m (vZ f i).ok;clear m H J q O r e1;have cm5:=hM9.cell 5;generalize wr.heap.size=gm at*;go_wp2_with fail
          go_loopw [102] (fun s wr=>∃(j:Nat) (F:Nat->Nat),j<=1/\s=j/\EX L bn on c (gr,9+1,c1) B B w (.slice A1 k c2) k ((L.take k).flatMap fun x=>(S x).map dV) gx gp gs x.arr (db (bh 0 0)) (db (f.st (i+j))) F wr/\RD F wr (.l 6 f.iU) (bm,om,f.iU.length,cm)/\RD F wr (.l 7 [f.val i]) (bv,ov,1,cv)) (fun s _=>1-(intOf s).toNat)
          case atStart=>exact⟨0,F,Nat.zero_le _,rfl,hE9,hvm9,hvv9⟩
          case round=>
           clear hE9 hvm9 hvv9 hM9 cm5;obtain⟨j,F,hj,rfl,J,q,O⟩:=hrel;by_cases hjl:j<1
           .have hj0:j=0:=by omega
            subst hj0;have e1:decide (((0:Nat):Int)<1)=true:=by decide
            obtain⟨_,_,_,M,-,-,-,hvr⟩:=eV O (by simp);cases M;obtain⟨us,r,t⟩:=hvr 0 _ rfl;obtain rfl:=ku (f.M8 i).p t;have r:wr.rangeAt bv (ov+0*7) (uK (f.val i)).toList:=by unfold uK;simpa using r
            clear hvr t;go_wp2_with (refine aX 232 rfl ?_)
            refine⟨bY rfl 232 _ rfl bv (ov+0*7) rfl (uK (f.val i)) _ r Tryz.underlying232 rfl (od (f.M8 i)) ?_⟩;go_wp2_with (refine aX 232 rfl ?_)
            refine⟨dK (uK (f.val i)) rfl rfl rfl rfl (aE.new _ _ _) (by rw[(f.M8 i).size];rfl) (od (f.M8 i)) (f.M8 i).one ?_⟩;intro w10 hV10 io;have m:=(Kept.alloc J.n.gk _).trans (Kept.dA io (J.n.gk.fresh _ (Nat.le_refl _)));have C:=J.fresh io;have ip:=q.move m (oZ f).ok;have i8:=O.move m (vZ f i).ok;clear m io J q O r e1;generalize wr.heap.size=gv at*;go_wp2_with (first|refine dg 63 _ rfl rfl ?_|refine dg 232 _ rfl rfl ?_|refine dm 63 _ _ rfl rfl ?_)
            refine⟨eu rfl rfl rfl C.s Tryz.underlying63 rfl (dG (f.M0 _)) ?_⟩;refine eu rfl rfl rfl C.p Tryz.underlying63 rfl (dG (bu 0 0)) ?_;refine eu rfl rfl rfl hV10 Tryz.underlying232 rfl (od (f.M8 i)) ?_;have hpp:PC tp 118 [.a (f.st (i+0)),.a (bh 0 0),.a (f.val i)] (.a (f.st (i+1))):=by
             have:=Sp f .root i hil;rw[htop]at this;exact this
            have hput:=hpp.mH rfl C.n.gk (GL.cons ((f.M0 (i+0)).gv F w10) (GL.cons ((bu 0 0).gv F w10) (GL.cons ((f.M8 i).gv F w10) GL.nil)));go_wp2_with (first|(go_at_call 118;go_loud (refine hput.mono ?_;rintro e w11 ⟨vp,F11,rfl,hv11,jp,hk11,lw⟩;obtain rfl:=(f.M0 (i+1)).inv hv11))|refine dm 63 _ _ rfl rfl ?_)
            refine⟨?_⟩;have m:=Kept.kI C.n.gk jp lw;have U:=C.kI jp hk11 lw;refine dK (db (f.st (i+1))) rfl rfl rfl rfl U.s (by rw[(f.M0 _).size,(f.M0 _).size]) (dG (f.M0 _)) (f.M0 _).one ?_;intro w12 hS12 mp;have hK2:=m.trans (Kept.dA mp U.sz);have hE12:=U.put hS12 mp;have hvm12:=ip.move hK2 (oZ f).ok;have hvv12:=i8.move hK2 (vZ f i).ok;clear hput hpp m hK2 U C ip i8 mp hS12 hV10 hv11 jp hk11 lw;go_wp2_with fail
            go_roundw
            case rel=>exact⟨1,F11,by omega,by go_num,hE12,hvm12,hvv12⟩
            case measure=>simp[intOf]
           .have hj1:j=1:=by omega
            subst hj1;go_wp2_with fail
            go_roundw
            case rel=>exact⟨i+1,F,hil,by go_num,J,q⟩
            case measure=>simp[intOf];omega
         .have hie:i=f.iU.length:=by omega
          subst hie;have e1:=decide_eq_false (by omega);rw[Ii f,EY f]at J;rw[EY f]at hSx;clear q hil hi;go_wp2_with (refine aX 63 rfl ?_)
          refine⟨eu rfl rfl rfl J.s Tryz.underlying63 rfl (dG (bu _ _)) ?_⟩;refine iK rfl (wr.heap.size,1,1) (wr.alloc (.cells (db (bh f.Ir f.bg)) 63)) (by kernel_rfl) ?_;have Y:=df (aE.new wr 63 (db (bh f.Ir f.bg))) (news:=(bh f.Ir f.bg).map dV) rfl;have n6:=J.o.alloc (.cells (db (bh f.Ir f.bg)) 63);have V:=J.n.alloc (.cells (db (bh f.Ir f.bg)) 63);have pm:=J.z;clear J;refine bD (wr.alloc (.cells (db (bh f.Ir f.bg)) 63)) rfl (.tmp 112) (.tmp 114) 78 rfl B 63 i6 (.agg (db Bo)) 52 384 aaf hi6 hy9 hy8 hy7 rfl (by decide) (.slice A1 k c2) k _ rfl n6 wr 1 1 ((bh f.Ir f.bg).map dV) rfl (by rfl) Y (fun u hu=>(nr (F:=fun _=>0) (w:=default) (bu f.Ir f.bg).p).one u hu) (by unfold maxLen;omega) (by omega) V.sz ?_;intro v' wB ho' hg' hf';have hNB:=V.grown n6 hg' (by decide) pm.out;have hzB:=aU (iJ V.gk hf' pm.out);clear Y n6 V pm hg' hf';go_wp2_with fail
          go_roundg (L.length-(k+1))
          case measure=>omega
          case rel=>
           refine⟨k+1,_,rfl,by omega,by go_num,?_,hzB,hNB⟩;rw[bJ,hx,List.flatMap_append];simpa[hSx]using ho'
       .have d0:decide (0<(k:Int))=true:=decide_eq_true (by omega);have d1:((k:Int)==0)=false:=by rw[eZ];omega
        obtain⟨p,y,hpar,hpk,hy,hyk⟩:=am.out.par k x hx UV;obtain⟨kp,-,hSy,-⟩:=am.out.elem p y hy hyk;obtain⟨go,co,M,-,-,-⟩:=dL ho2 UV;cases M;have cx4:w2.cell? (gx,4)=p:=by rw[hX2.cell 4];show some (Value.int .i64 x.par)=_;rw[hpar]
        obtain⟨bq,oq,hqe,-,hq⟩:=dU.qI (fl:=fun x=>(S x).map dV) (fun x=>by rw[aj];exact(am.out.is x).n) (by decide) ho2 (fun e=>by have:=dY List.length e;rw[aN,eJ]at this;omega);cases hqe;have hrp:w2.rangeAt go (p*52) (db (S y)).toList:=fun j v hv=>by
         have:=hq p y (by rw[bU hpk];exact hy) j v (by unfold db at hv;simpa using hv);rwa[bc]at this
        rw[hSy]at hrp;go_wp2_with (refine aX 63 rfl ?_)
        refine⟨bY rfl 63 _ rfl go (p*52) rfl (db kp.sty) _ hrp Tryz.underlying63 rfl (dG kp.is) ?_⟩;go_wp2_with (refine aX 63 rfl ?_)
        refine⟨dK (db kp.sty) rfl rfl rfl rfl hP2 (by rw[o5.size,kp.is.size]) (dG kp.is) kp.is.one ?_⟩;intro w3 hP3 hC3;have hN3:=hN2.dA hC3 hz2 hB2 nBp;have ho3:=aZ ho2 (fun g E _=>hC3.other g (ngp g E));have hX3:=hX2.dA hC3 nxp;clear hC3 hN2 ho2 hX2 hP2 hq hrp cx4;go_wp2_with (refine aX 63 rfl ?_)
        refine⟨eu rfl rfl rfl hP3 Tryz.underlying63 rfl (dG kp.is) ?_⟩;go_wp2_with (first|(go_at_call 115;go_loud (refine((Sq kp).mH rfl hN3.gk (GL.cons (kp.is.gv _ _) (GL.cons (.d _ _ (.b false)) GL.nil))).mono ?_;rintro e w4 ⟨vq,F4,rfl,hv4,W,hk4,a5⟩;obtain rfl:=(bu 0 0).inv hv4))|refine dm 63 _ _ rfl rfl ?_)
        refine⟨?_⟩;have N:=hN3.kI W hk4 a5;have WF:=ca ho3 W;have WP:=hX3.below W hX3.lt;have hP4:=hP3.below W hP3.lt;have hz4:Hid (∀g,(Value.slice go k c2).ownBlock=some g->F4 g=0):=fun g E=>by rw[a5 g (ho3.lt g E).2];exact hz.out g E
        have hzp4:F4 gp=0:=by rw[a5 gp hP3.lt];exact hz2
        refine dK (db (bh 0 0)) rfl rfl rfl rfl (aE.new _ _ _) rfl (dG (bu 0 0)) (bu 0 0).one ?_;intro w5 hS5 ii;have hz5:=N.gk.fresh _ (Nat.le_refl _);have hN5:=(N.alloc _).dA ii hz5 N.sz (by have:=N.tb.lt;omega);have Do:=aZ (WF.alloc _) (fun g E _=>ii.other g (by have:=(WF.lt g E).2;omega));have hX5:=(WP.alloc _).dA ii (by have:=WP.lt;omega);have hP5:=(hP4.alloc _).dA ii (by have:=hP4.lt;omega);have hB5:=N.sz;have nsp:gp≠w4.heap.size:=by have:=hP4.lt;omega
        have nsx:gx≠w4.heap.size:=by have:=WP.lt;omega
        have ngs:∀g,(Value.slice go k c2).ownBlock=some g->g≠w4.heap.size:=fun g E=>by have:=(WF.lt g E).2;omega
        have hgs5:B≠w4.heap.size:=by have:=N.tb.lt;omega
        have hg5:=hS5.lt;generalize w4.heap.size=gs at*;have I:EX L bn on c (gr,9+1,c1) B B w (go,k,c2) k _ gx gp gs x.arr (db (kp.sty)) (db (bh 0 0)) F4 w5:=⟨hN5,Do,hz4,hX5,hP5,hS5,hzp4,hz5,nxp,nsx,nsp,nBp,by have:=hN5.tb.lt;have:=hg5;exact hgs5,hB2,hB5,ngp,ngs⟩;clear ii N WF WP hP4 W hv4 a5 hk4 hN3 ho3 hX3 hP3 hN5 Do hz4 hX5 hP5 hS5 hzp4 hz5;rcases am.out.kind k x hx with un|un
        .obtain⟨f,hnm,hSx,htop0⟩:=am.out.elem k x hx un;have htop:f.top=false:=by
          cases h:f.top with
          |false=>rfl
          |true=>have:=htop0.1 h;omega
         have cx1:w5.cell? gx=zJ:=by rw[I.x.cell 0];show some (Value.int .i64 x.kind)=_;rw[un]
         have e48:=I.n.tb.cell 0;have hmn:=zR (n:=k) (A:=(bn,on)) (c:=c) (rv:=(gr,9+1,c1)) hx un hlen4 f hnm I.n.gk I.n.nd I.n.ru;go_wp2_with (go_at_call 117;go_loud (refine hmn.mono ?_;rintro e w8 ⟨vm,F8,rfl,q,hb8,hk8,hf8⟩;obtain⟨bm,om,cm,M,-,-,-,-⟩:=eV q (uG f);subst M))
         have hE8:=I.kI hb8 hk8 hf8;clear I hb8 hk8 hf8 cx1 e48;rw[<-M9 f]at hE8;have hml:=Ig f;go_loopw [94] (fun s wr=>∃(i:Nat) (F:Nat->Nat),i<=f.iU.length/\s=i/\EX L bn on c (gr,9+1,c1) B B w (go,k,c2) k ((L.take k).flatMap fun x=>(S x).map dV) gx gp gs x.arr (db (kp.sty)) (db (f.st i)) F wr/\RD F wr (.l 6 f.iU) (bm,om,f.iU.length,cm)) (fun s _=>f.iU.length-(intOf s).toNat)
         case atStart=>exact⟨0,F8,Nat.zero_le _,rfl,hE8,q⟩
         case round=>
          clear hE8 q;obtain⟨i,F,hi,rfl,J,q⟩:=hrel;by_cases hil:i<f.iU.length
          .have e1:=lJ i f.iU.length (by omega);obtain⟨a',b',c',d',G⟩:=Ih f hil;obtain⟨_,_,_,M,-,-,-,hmr⟩:=eV q (uG f);cases M;obtain⟨us,r,t⟩:=hmr i _ G;obtain⟨vv,O,rfl⟩:=z7 t;obtain⟨bv,ov,cv,rfl,-,-,-,-⟩:=eV O (by simp);clear hmr t G;go_wp2_with (refine aX 230 rfl ?_)
           refine⟨bY rfl 230 _ rfl bm (om+i*6) rfl #[a',b',c',d',false,(bv,ov,1,cv)] _ r Tryz.underlying230 rfl (by kernel_rfl) ?_⟩;go_wp2_with (refine aX 230 rfl ?_)
           refine⟨dK #[a',b',c',d',false,(bv,ov,1,cv)] rfl rfl rfl rfl (aE.new _ _ _) rfl (by kernel_rfl) (by simp[Value.oneCell']) ?_⟩;intro w9 hM9 H;have m:=(Kept.alloc J.n.gk _).trans (Kept.dA H (J.n.gk.fresh _ (Nat.le_refl _)));have hE9:=J.fresh H;have hvm9:=q.move m (oZ f).ok;have hvv9:=O.move m (vZ f i).ok;clear m H J q O r e1;have cm5:=hM9.cell 5;generalize wr.heap.size=gm at*;go_wp2_with fail
           go_loopw [102] (fun s wr=>∃(j:Nat) (F:Nat->Nat),j<=1/\s=j/\EX L bn on c (gr,9+1,c1) B B w (go,k,c2) k ((L.take k).flatMap fun x=>(S x).map dV) gx gp gs x.arr (db (kp.sty)) (db (f.st (i+j))) F wr/\RD F wr (.l 6 f.iU) (bm,om,f.iU.length,cm)/\RD F wr (.l 7 [f.val i]) (bv,ov,1,cv)) (fun s _=>1-(intOf s).toNat)
           case atStart=>exact⟨0,F,Nat.zero_le _,rfl,hE9,hvm9,hvv9⟩
           case round=>
            clear hE9 hvm9 hvv9 hM9 cm5;obtain⟨j,F,hj,rfl,J,q,O⟩:=hrel;by_cases hjl:j<1
            .have hj0:j=0:=by omega
             subst hj0;have e1:decide (((0:Nat):Int)<1)=true:=by decide
             obtain⟨_,_,_,M,-,-,-,hvr⟩:=eV O (by simp);cases M;obtain⟨us,r,t⟩:=hvr 0 _ rfl;obtain rfl:=ku (f.M8 i).p t;have r:wr.rangeAt bv (ov+0*7) (uK (f.val i)).toList:=by unfold uK;simpa using r
             clear hvr t;go_wp2_with (refine aX 232 rfl ?_)
             refine⟨bY rfl 232 _ rfl bv (ov+0*7) rfl (uK (f.val i)) _ r Tryz.underlying232 rfl (od (f.M8 i)) ?_⟩;go_wp2_with (refine aX 232 rfl ?_)
             refine⟨dK (uK (f.val i)) rfl rfl rfl rfl (aE.new _ _ _) (by rw[(f.M8 i).size];rfl) (od (f.M8 i)) (f.M8 i).one ?_⟩;intro w10 hV10 io;have m:=(Kept.alloc J.n.gk _).trans (Kept.dA io (J.n.gk.fresh _ (Nat.le_refl _)));have C:=J.fresh io;have ip:=q.move m (oZ f).ok;have i8:=O.move m (vZ f i).ok;clear m io J q O r e1;generalize wr.heap.size=gv at*;go_wp2_with (first|refine dg 63 _ rfl rfl ?_|refine dg 232 _ rfl rfl ?_|refine dm 63 _ _ rfl rfl ?_)
             refine⟨eu rfl rfl rfl C.s Tryz.underlying63 rfl (dG (f.M0 _)) ?_⟩;refine eu rfl rfl rfl C.p Tryz.underlying63 rfl (dG kp.is) ?_;refine eu rfl rfl rfl hV10 Tryz.underlying232 rfl (od (f.M8 i)) ?_;have hpp:PC tp 118 [.a (f.st (i+0)),.a (kp.sty),.a (f.val i)] (.a (f.st (i+1))):=by
              have:=Sp f kp i hil;rw[htop]at this;exact this
             have hput:=hpp.mH rfl C.n.gk (GL.cons ((f.M0 (i+0)).gv F w10) (GL.cons (kp.is.gv F w10) (GL.cons ((f.M8 i).gv F w10) GL.nil)));go_wp2_with (first|(go_at_call 118;go_loud (refine hput.mono ?_;rintro e w11 ⟨vp,F11,rfl,hv11,jp,hk11,lw⟩;obtain rfl:=(f.M0 (i+1)).inv hv11))|refine dm 63 _ _ rfl rfl ?_)
             refine⟨?_⟩;have m:=Kept.kI C.n.gk jp lw;have U:=C.kI jp hk11 lw;refine dK (db (f.st (i+1))) rfl rfl rfl rfl U.s (by rw[(f.M0 _).size,(f.M0 _).size]) (dG (f.M0 _)) (f.M0 _).one ?_;intro w12 hS12 mp;have hK2:=m.trans (Kept.dA mp U.sz);have hE12:=U.put hS12 mp;have hvm12:=ip.move hK2 (oZ f).ok;have hvv12:=i8.move hK2 (vZ f i).ok;clear hput hpp m hK2 U C ip i8 mp hS12 hV10 hv11 jp hk11 lw;go_wp2_with fail
             go_roundw
             case rel=>exact⟨1,F11,by omega,by go_num,hE12,hvm12,hvv12⟩
             case measure=>simp[intOf]
            .have hj1:j=1:=by omega
             subst hj1;go_wp2_with fail
             go_roundw
             case rel=>exact⟨i+1,F,hil,by go_num,J,q⟩
             case measure=>simp[intOf];omega
          .have hie:i=f.iU.length:=by omega
           subst hie;have e1:=decide_eq_false (by omega);rw[Ii f,EY f]at J;rw[EY f]at hSx;clear q hil hi;go_wp2_with (refine aX 63 rfl ?_)
           refine⟨eu rfl rfl rfl J.s Tryz.underlying63 rfl (dG (bu _ _)) ?_⟩;refine iK rfl (wr.heap.size,1,1) (wr.alloc (.cells (db (bh f.Ir f.bg)) 63)) (by kernel_rfl) ?_;have Y:=df (aE.new wr 63 (db (bh f.Ir f.bg))) (news:=(bh f.Ir f.bg).map dV) rfl;have n6:=J.o.alloc (.cells (db (bh f.Ir f.bg)) 63);have V:=J.n.alloc (.cells (db (bh f.Ir f.bg)) 63);have pm:=J.z;clear J;refine bD (wr.alloc (.cells (db (bh f.Ir f.bg)) 63)) rfl (.tmp 112) (.tmp 114) 78 rfl B 63 i6 (.agg (db Bo)) 52 384 aaf hi6 hy9 hy8 hy7 rfl (by decide) (go,k,c2) k _ rfl n6 wr 1 1 ((bh f.Ir f.bg).map dV) rfl (by rfl) Y (fun u hu=>(nr (F:=fun _=>0) (w:=default) (bu f.Ir f.bg).p).one u hu) (by unfold maxLen;omega) (by omega) V.sz ?_;intro v' wB ho' hg' hf';have hNB:=V.grown n6 hg' (by decide) pm.out;have hzB:=aU (iJ V.gk hf' pm.out);clear Y n6 V pm hg' hf';go_wp2_with fail
           go_roundg (L.length-(k+1))
           case measure=>omega
           case rel=>
            refine⟨k+1,_,rfl,by omega,by go_num,?_,hzB,hNB⟩;rw[bJ,hx,List.flatMap_append];simpa[hSx]using ho'
        .obtain⟨-,hSx⟩:=am.out.text k x hx un;have cx1:w5.cell? gx=zZ:=by rw[I.x.cell 0];show some (Value.int .i64 x.kind)=_;rw[un]
         go_wp2_with (refine aX 63 rfl ?_)
         refine⟨eu rfl rfl rfl I.s Tryz.underlying63 rfl (dG (bu _ _)) ?_⟩;refine iK rfl (w5.heap.size,1,1) (w5.alloc (.cells (db (bh 0 0)) 63)) (by kernel_rfl) ?_;have Y:=df (aE.new w5 63 (db (bh 0 0))) (news:=(bh 0 0).map dV) rfl;have n6:=I.o.alloc (.cells (db (bh 0 0)) 63);have V:=I.n.alloc (.cells (db (bh 0 0)) 63);have pm:=I.z;clear I;refine bD (w5.alloc (.cells (db (bh 0 0)) 63)) rfl (.tmp 112) (.tmp 114) 78 rfl B 63 i6 (.agg (db Bo)) 52 384 aaf hi6 hy9 hy8 hy7 rfl (by decide) (go,k,c2) k _ rfl n6 w5 1 1 ((bh 0 0).map dV) rfl (by rfl) Y (fun u hu=>(nr (F:=fun _=>0) (w:=default) (bu 0 0).p).one u hu) (by unfold maxLen;omega) (by omega) V.sz ?_;intro v' wB ho' hg' hf';have hNB:=V.grown n6 hg' (by decide) pm.out;have hzB:=aU (iJ V.gk hf' pm.out);clear Y n6 V pm hg' hf';go_wp2_with fail
         go_roundg (L.length-(k+1))
         case measure=>omega
         case rel=>
          refine⟨k+1,_,rfl,by omega,by go_num,?_,hzB,hNB⟩;rw[bJ,hx,List.flatMap_append];simpa[hSx]using ho'
      .have hkl:k=L.length:=by omega
       subst hkl;have e1:=decide_eq_false (by omega);go_wp2_with fail
       go_ret
       rw[bL]at ho;rw[<-hBe.out];exact⟨_,_,rfl,hN.bl,ho⟩
