/- part of topCells.proved -/
import Derived.Test.YtkkiefcapbddkaaGreatDoorFg
import Derived.Test.YtkkiefcapbddkaaGreatDoorGa
import Derived.Test.YtkkiefcapbddkaaGreatDoorTg
import Derived.Test.YtkkiefcapbddkaaGreatDoorVh
set_option linter.all false
set_option maxRecDepth 1000000
set_option maxHeartbeats 0
noncomputable section
namespace Go.Abs
open Go.RowKit Go.Proofs
variable{cap g:Nat}{F:Nat->Nat}{w:World}
def SG:ij (gR []) 40 17 [tf Hj] (.tu [zj Hj,.d (iN 0)])=true:=by decide+kernel
open Go.Proofs.YtkkiefcapbddkaaGreatDoor Mem ep
section
attribute[local instance] dZ
def Iu:D:=.l 1 (Hj.map fun n=>[.i .u8 (Int.ofNat n)])
def aaM:D:=.l 1 (Hj.map fun n=>[.i .i32 (Int.ofNat n)])
def Wk:PC tp 17 [.d Iu] (.tu [.d aaM,.d (iN 0)]):=(jy bH rfl SG).2
def Wl:PC tp 47 [.d aaM] MN:=(Vq bH rfl OH).2
def Wm:PC tp 46 [MN] (.tu [.d (.l 2 o0),.d (iN 0)]):=(Vq bH rfl OI).2
def uL:Bv Iu:=iV (by decide+kernel)
def Na{v:Value}{d:D}(e:GV (gF F) (fun _=>none) w (.tu [.d d,.d (iN 0)]) v):∃a,v=.tuple #[a,zQ]/\RD F w d a:=by
 cases e with
 |tu _ f g c=>
  match f,g with
  |[a,b],_=>
   have h:=(c 0 _ a rfl rfl).cG;have i:=(c 1 _ b rfl rfl).cG;cases i;exact⟨a,rfl,h⟩
def Wn(L:List Nd)(i X:List Int)(Y:uo L i)(hD:Deep L X)(S:Nd->List D)(t:EW L S)(w:World)(q:Nat->Nat)(m:Gk q w)(A:Option Addr)(c:Nat)(cv:Value)(hA:RD q w (.l 9 (L.map x5)) (.slice A L.length c))(hc:RD q w Iu cv):
 Calls tp 24 #[.agg #[.slice A L.length c],cv] w fun e w'=>∃u v,e=tQ #[.slice u L.length v,zQ]/\Below w w w'/\w'.ownsRow w 63 52 (.slice u L.length v) L.length (L.flatMap fun x=>(S x).map dV):=by
 have b:L≠[]:=fun e=>by have:=Y.pos;rw[e]at this;simp at this
 go_enter Tryz.func24,Tryz.ntmps24
 go_upto_region 1 with fail
 refine bM (fun Z=>aE Z w 48 #[.slice A L.length c]/\Below w w Z) ⟨aE.new _ _ _,(Below.refl _ _).alloc (ae _) _⟩ ?_;rintro w1 ⟨r,s⟩;have j:=Kept.kI (F':=q) m s (fun _ _=>rfl);have n:=m.kept j s.size;have y:=hA.move j (gL b).ok;have z:=hc.move j uL.ok;obtain⟨B,f⟩:=iG w.heap.size;rw[<-f]at r s|-;replace f:=aU f;have am:=r.lt;go_upto_region 4 with(go_at_call 17;go_loud (refine(Wk.mH rfl n (GL.cons (.d _ _ z) GL.nil)).mono ?_;rintro e w2 ⟨v2,F2,rfl,C,g,o,E⟩;obtain⟨rv,rfl,F⟩:=Na C))
 have G:=Kept.kI n g E;have H:=y.move G (gL b).ok;have k:=r.below g r.lt;have I:=s.trans (g.mono (by omega));have a5:=g.size;go_upto_region 7 with(first
  |(go_at_call 47;go_loud (refine(Wl.mH rfl o (GL.cons (.d _ _ F) GL.nil)).mono ?_;rintro e w3 ⟨v3,F3,rfl,J,a,p,K⟩))
  |(go_at_call 46;go_loud (refine(Wm.mH rfl p (GL.cons J GL.nil)).mono ?_;rintro e w4 ⟨v4,F4,rfl,M,h,N,O⟩;obtain⟨av,rfl,P⟩:=Na M)))
 have Q:=(H.move (Kept.kI o a K) (gL b).ok).move (Kept.kI p h O) (gL b).ok;have R:=(k.below a k.lt).below h (Nat.lt_of_lt_of_le k.lt a.size);have a9:=a.size;have em:=h.size;have T:=(I.trans (a.mono (by omega))).trans (h.mono (by omega));have e0:=R.cell 0;have U:=Is L i X Y hD S t w4 F4 N A c av Q P;go_wp2_with (go_at_call 48;go_loud (refine U.mono ?_;rintro e w5 ⟨u,v,rfl,V,W⟩))
 go_ret2
 rw[<-f.out];exact⟨_,_,rfl,T.trans (V.mono (by omega)),eW W (by omega)⟩
end
def CI(a:ByteArray):Prop:=∃k:jc,a=bN k.nm/\k.top=false
def Pp(s:ByteArray):Bx CI (iX s):=by
 unfold iX Bx;refine⟨fun _=>⟨.td,rfl,rfl⟩,?_⟩;unfold qP Bx qP;exact⟨⟨fun h=>(by rw[ne0]at h;cases h),trivial⟩,trivial⟩
def wa{α:Type}(f:α->Pt)(h:∀x,Bx CI (f x)):∀l:List α,qP CI (l.map f)
 |[]=>by rw[wP];unfold qP;trivial
 |x::l=>by rw[bV];unfold qP;exact⟨h x,wa f h l⟩
def SH(r:List ByteArray):Bx CI (kg r):=by
 unfold kg Bx;exact⟨fun _=>⟨.tr,rfl,rfl⟩,wa iX Pp r⟩
def z8(R:List (List ByteArray)):∃a,nodesT R=a::fo 1 0 (-1) [.mk eT eQ (R.map kg)]/\a.kind=1/\a.name=bN jc.root.nm:=by
 unfold nodesT pU flat;rw[aI (by simp[ne4])];exact⟨_,rfl,rfl,rfl⟩
def CJ(R:List (List ByteArray)){n:Nat}{x:Nd}(c:0<n)(a:(nodesT R)[n]? =some x):x.kind=2\/(x.kind=1/\CI x.name):=by
 obtain⟨d,b,-,-⟩:=z8 R;rw[b]at a;obtain⟨m,rfl⟩:∃m,n=m+1:=⟨n-1,by omega⟩;rw[ap]at a;refine qQ (Q:=CI) _ 1 0 (-1) ?_ x (List.mem_of_getElem? a);unfold qP qP Bx;exact⟨⟨fun _=>⟨.tab,rfl,rfl⟩,wa kg SH R⟩,trivial⟩
def Bz{R:List (List ByteArray)}{c:List Int}(l:uo (nodesT R) c):EW (nodesT R) mL:=by
 obtain⟨m,o,d,e⟩:=z8 R;have g:(nodesT R)[0]? =some m:=by rw[o];rfl
 have p:∀(n:Nat) x,(nodesT R)[n]? =some x->x.kind=2->0<n:=fun n x a b=>by
  rcases cz n with h|h
  .subst h;rw[g]at a;cases a;rw[d]at b;exact absurd b (by decide)
  .exact h
 refine⟨fun n x a b=>⟨p n x a b,M4 b⟩,fun n x a b=>?_,fun n x a=>?_,M3,fun n x a r=>?_⟩
 .rcases cz n with h|h
  .subst h;rw[g]at a;cases a;exact⟨.root,e,o7 b e,by simp[jc.top]⟩
  .rcases CJ R h a with h2|⟨_,k,f,i⟩
   .rw[h2]at b;exact absurd b (by decide)
   .exact⟨k,f,o7 b f,by rw[i];constructor<;>intro q;cases q;omega⟩
 .rcases cz n with h|h
  .subst h;rw[g]at a;cases a;exact .inl d
  .rcases CJ R h a with h2|h2
   .exact .inr h2
   .exact .inl h2.1
 .have u:=l.par n x a r;rcases Il (pU R) 0 (-1) (-1) (-1) n x a with h|⟨j,y,s,h2,t⟩
  .omega
  .exact⟨j,y,by rw[s];simp,by omega,h2,t⟩
open Ord
section
attribute[local instance] dZ
def uO(R:List (List Int)):List Int:=(nG (tabW R)).map toI
def Iz(R:List (List Int)):0<(uO R).length:=by unfold uO nG;simp
def SY(R:List (List Int)):(uO R).length<=600:=by unfold uO;rw[aj];exact Nc R
def th(x:Nd):x.cells.length=9:=rfl
def Se(x:Tk):x.cells.length=5:=rfl
def K4(R:List (List Int))(w:World)(F:kA w g 0 (uO R))(o:g<w.heap.size):
 Calls tp 18 #[(g,(uO R).length,cap)] w fun e p=>∃A c,e=tQ #[.agg #[.slice A (nodesT (tabW R)).length c],zQ]/\Below w w p/\p.ownsRow w 121 9 (.slice A (nodesT (tabW R)).length c) (nodesT (tabW R)).length ((nodesT (tabW R)).flatMap Nd.cells):=by
 have C:=oh R;have E:=SY R;have h:=Iz R;have q:aE (w.alloc (.cells #[zn] 48)) w 48 #[zn]:=aE.new _ _ _;have r:Below w w (w.alloc (.cells #[zn] 48)):=(Below.refl _ _).alloc (ae _) _;have s:kA (w.alloc (.cells #[zn] 48)) g 0 (uO R):=F.keep (r.block g o);have t:(w.alloc (.cells #[zn] 48)).heap.size=w.heap.size+1:=by simp
 have u:=Iw (cap:=cap) (w.alloc (.cells #[zn] 48)) (kJ (tabW R)) s (by omega) h (by omega) (Pq _ (Ab R)) (by have:=H9 C;omega) (Wr (tabW R));generalize K:uO R=D at*;go_enter Tryz.func18,Tryz.ntmps18
 go_upto_region 1 with fail
 generalize w.alloc (.cells #[zn] 48)=w1 at*;obtain⟨S,n⟩:=iG w.heap.size;rw[<-n]at q r t|-;replace n:=aU n;go_wp2_with (first|(go_at_call 22;go_loud (refine u.mono ?_;rintro e G ⟨A,c,rfl,a,v⟩;have x:=Ia (tabW R) C A c G (dU.qI Se (by decide) v);have i:=q.below a q.lt;have H:=a.size))|(go_at_call 21;go_loud (refine x.mono ?_;rintro e y ⟨j,k,rfl,d,l⟩;have f:=i.below d i.lt;have L:=f.cell 0;have f0:=f.free 0;have I:=d.size)))
 have m:=fp.setCell y S (.slice j (nodesT (tabW R)).length k);have z:aE (y.setCell S (.slice j (nodesT (tabW R)).length k)) S 48 #[.slice j (nodesT (tabW R)).length k]:=f.put 0 _;have B:=aZ (w':=y.setCell S (.slice j (nodesT (tabW R)).length k)) l (fun b J _=>m.other b (fun e=>by have e:b=S:=e;have:=(l.lt b J).1;omega));refine ej (jU 3 2 48 S rfl zQ rfl rfl z _ Tryz.underlying48 rfl (by kernel_rfl)) rfl ?_;rw[<-n.out];exact⟨j,k,rfl,((r.trans (a.mono (by omega))).trans (d.mono (by omega))).trans (m.below (Nat.le_refl _)),eW B (by omega)⟩
def IA(R:List (List Int))(v y:Int)(l:List Int)(A:Option Addr)(c:Nat)(w:World){o:Nat}(hg:∀(j:Nat) u,(nG (tabW R))[j]? =some u->w.cell? (g,o+j)=some (.int .u8 (u.toNat:Int)))(z:g<w.heap.size)
 (h0:0<=v)(h1:v<=16777216)(h2:0<=y)(h3:y<=16777216)(hl:l.length<=256)(hx:∀x∈l,0<=x/\x<=65536)(hA:gB w w A l):
 Calls tp 13 #[(g,o,(nG (tabW R)).length,cap),.agg #[v,y,.slice A l.length c]] w fun e f=>∃A c,e=tQ #[.agg #[.slice A (nodesT (tabW R)).length c],zQ]/\Below w w f/\f.ownsRow w 121 9 (.slice A (nodesT (tabW R)).length c) (nodesT (tabW R)).length ((nodesT (tabW R)).flatMap Nd.cells):=by
 have a:=fun(f:World) (s:Below w w f)=>Ae v y l A c f h0 h1 h2 h3 hl hx ((hA.below s).more s.size);have d:=fun(f:World) (s:Below w w f)=>Iy g o cap (nG (tabW R)) f (by have:=Nc R;omega) (Pr R) (fun j hj=>by
  have:=hg j _ (List.getElem?_eq_getElem hj);rw[<-s.cell z]at this;rw[show((g,o):Addr).add j=(g,o+j) by cases j<;>simp[Addr.add]];exact this)
 replace a:=aU a;replace d:=aU d;have k:=fun(f:World) (g' B:Nat) (h:kA f g' 0 (uO R)) (P:g'<f.heap.size)=>K4 R f (cap:=B) h P;replace k:=aU k;have C:=Iz R;have Q:(nG (tabW R)).length=(uO R).length:=by unfold uO;rw[aj]
 have p:(nG (tabW R)).map (fun u=>Value.int .i32 (u.toNat:Int))=(uO R).map (Value.int .i32):=by unfold uO;rw[fj];rfl
 replace p:=aU p;go_enter Tryz.func13,Tryz.ntmps13
 go_upto_region 1 with fail
 refine bM (fun Z=>aE Z w 25 #[v,y,.slice A l.length c]/\aE Z (w.heap.size+1) 48 #[zn]/\Below w w Z) ⟨(aE.new _ _ _).alloc _,aE.newAt _ _ _ (by simp),((Below.refl _ _).alloc (ae _) _).alloc (by simp) _⟩ ?_;rintro w1 ⟨M,N,T⟩;have U:=a.out w1 T;obtain⟨S,O⟩:=iG w.heap.size;rw[<-O]at M N T z a d|-;replace O:=aU O;have e0:=M.cell 0;have e1:=M.cell 1;have e2:=M.cell 2;go_upto_region 4 with(go_at_call 16;go_loud (refine U.mono ?_;rintro e w2 ⟨rfl,D⟩))
 have q:=N.below D N.lt;have a9:=N.lt;have E:=T.trans (D.mono (by omega));have F:=d.out w2 E;rw[Q]at F;go_upto_region 7 with(go_at_call 17;go_loud (refine F.mono ?_;rintro e w3 ⟨v3,rfl,G,m⟩;rw[p.out]at m;obtain⟨t,c3,rfl,em,-,-⟩:=dL m C))
 have r:=q.below G q.lt;have eq:=q.lt;have V:=E.trans (G.mono (by omega));have W:kA w3 t 0 (uO R):=⟨fun i ch hi=>by
  have:=m.cells (g:=t) rfl i (.int .i32 ch) (by rw[ai,hi];rfl);have he:(t:Addr).add i=(t,i):=by cases i<;>simp[Addr.add]
  rw[he]at this;rw[bc];exact this⟩
 have X:=k.out w3 t c3 W ((m.lt t rfl).2);have ge:=r.lt;go_wp2_with (go_at_call 18;go_loud (refine X.mono ?_;rintro e Y ⟨H,I,rfl,J,K⟩;have n:=r.below J r.lt;have c0:=n.cell 0;have f0:=n.free 0;have g7:=n.lt))
 have L:=fp.setCell Y (S+1,0) (.slice H (nodesT (tabW R)).length I);have am:aE (Y.setCell (S+1,0) (.slice H (nodesT (tabW R)).length I)) (S+1) 48 #[.slice H (nodesT (tabW R)).length I]:=n.put 0 _;have a5:=aZ (w':=Y.setCell (S+1,0) (.slice H (nodesT (tabW R)).length I)) K (fun b s _=>L.other b (fun e=>by have e:b=S+1:=e;have:=(K.lt b s).1;omega));refine ej (jU 5 4 48 (S+1) rfl zQ rfl rfl am _ Tryz.underlying48 rfl (by kernel_rfl)) rfl ?_;rw[<-O.out];exact⟨H,I,rfl,(V.trans (J.mono (by omega))).trans (L.below (by simp)),eW a5 (by omega)⟩
end
section
attribute[local instance] dZ
def bZ(R:List (List Int)):List (List Nat):=(R.take 6).map fun r=>(r.take 6).map wN
def I1(R:List (List Int)):pf (bZ R)=tabW R:=by
 unfold pf bZ tabW Wp;rw[fj];refine fa fun r _=>?_;show((r.take 6).map wN).map wd=_;rw[fj];rfl
def AK(R:List (List Int)):(bZ R).length<=6/\(∀r∈bZ R,r.length<=6)/\∀r∈bZ R,∀n∈r,1<=n/\n<=9:=by
 refine⟨by simp[bZ];omega,fun r a=>?_,fun r a n b=>?_⟩
 .obtain⟨x,_,rfl⟩:=List.mem_map.1 a;simp;omega
 .obtain⟨x,_,rfl⟩:=List.mem_map.1 a;obtain⟨y,_,rfl⟩:=List.mem_map.1 b;exact Nb y
def TH{α β:Type}{B sz:Nat}{A:Option Addr}{c:β->List Value}{f:α->β}{l:List α}(h:dU w B A sz (fun x=>c (f x)) l):dU w B A sz c (l.map f):=fun g=>by
 obtain⟨b,a,e,k,m⟩:=h (fun e=>g (by rw[e];rfl));refine⟨b,a,e,k,fun i x d j v n=>?_⟩;rw[ai,dH]at d;obtain⟨y,o,rfl⟩:=d;exact m i y o j v n
def I2{P:Program}{fn:Func}{a:Array Value}(s c b f g:Nat)(k:fn.results=#[.cell s c,.tmp f,.tmp g])(l:a.getD s undef=pt b){t:TypeId}{e:Array Value}(m:aE w b t e)
 (d:TypeDesc)(n:P.underlying c=some d)(o:d.isRow=true)(p:(P.info? c).map (·.size)=some e.size)(v1 v2:Value)(q:a.getD f undef=v1)(r:a.getD g undef=v2):(results fn a).run P w=.ok (.tuple #[.agg e,v1,v2]) w:=by
 have u:=run_loadVar_mid (P:=P) w b 0 c e.toList d m.range n o (by simpa using p);have h:a[s]?.getD undef=pt b:=by simpa using l
 have i:a[f]?.getD undef=v1:=by simpa using q
 have j:a[g]?.getD undef=v2:=by simpa using r
 have v:(asAddr (pt b)).run P w=.ok b w:=rfl;simp[results,k,h,i,j,Sem.run_bind,u,v]
def Fi(x:Nd):((mL x).map dV).length=52:=by rw[aj,(M3 x).n]
def Fj(F:Nat->Nat)(w:World)(a c:Nat):Nat->Nat:=fun b=>if a<=b/\b<c then bsz w b else F b
def Xd{lo c:Nat}(a:Gk F w)(f:3<lo)(g:c<=w.heap.size):Gk (Fj F w lo c) w:=by
 have e:Fj F w lo c 3=F 3:=by unfold Fj;rw[aI (by omega)]
 exact⟨by rw[e];exact a.three,by rw[e];exact a.fit,a.sp,fun b d=>by unfold Fj;rw[aI (by omega)];exact a.fresh b d⟩
def Ls{m:Int}(ha1:1<=m)(ha2:m<=500)(R:List (List Int))(F:Nat->Nat)(w:World)(U:Gk F w)(A:Option Addr)(c:Nat)(hA:RD F w (.l 9 ((nodesT (tabW R)).map x5)) (.slice A (nodesT (tabW R)).length c))(cv:Value)(hc:RD F w Iu cv)(V:Option Addr)(cl:Nat)(hl:RD F w (gW [m]) (.slice V 1 cl)):
 Calls tp 19 #[.agg #[.slice A (nodesT (tabW R)).length c],cv,.agg #[(1048576:Int),(6400:Int),.slice V 1 cl]] w fun e a=>∃us F',e=tQ #[.agg us.toArray,true,zQ]/\Below w w a/\Gk F' a/\(∀b,b<w.heap.size->F' b=F b)/\RA F' a (tJ (ja m (bZ R))) us:=by
 have hT:=oh R;obtain⟨hnl,⟨W,t⟩,a5⟩:=kx hT;have a9:nodesT (tabW R)≠[]:=fun e=>by have:=t.pos;rw[e]at this;simp at this
 have n6:=Bz t;obtain⟨q1,q2,q3⟩:=AK R;have u:∀a,Below w w a->Kept F w F a:=fun a f=>Kept.below f (fun b f=>U.lt f);have v:∀a,Below w w a->Gk F a:=fun a f=>U.below f (fun b f=>U.lt f);have X:gB w w V [m]:=by
  obtain⟨A',c',he,hi⟩:=r8 U hl;injection he with e1 e2 e3;rw[e1];exact hi
 have y:dU w w A 9 Nd.cells (nodesT (tabW R)):=by
  obtain⟨A',c',he,hi⟩:=qM a9 hA;injection he with e1 e2 e3;rw[e1];exact hi
 have g:=fun(a:World) (f:Below w w a)=>Ae 1048576 6400 [m] V cl a (by decide) (by decide) (by decide) (by decide) (by simp) (fun x hx=>by rw[bG.1 hx];omega) ((X.below f).more f.size);have n:=fun(a:World) (f:Below w w a)=>Go.Proofs.YtkkiefcapbddkaaGreatDoor.rP (nodesT (tabW R)) W _ A c a t a5 ((y.below f).more f.size);have G:=fun(a:World) (f:Below w w a)=>Wn (nodesT (tabW R)) W _ t a5 mL n6 a F (v a f) A c cv (hA.move (u a f) (gL a9).ok) (hc.move (u a f) uL.ok);have H:=fun(a:World) (f:Below w w a) (A2:Option Addr) (c2:Nat) (Y:dU a a A2 52 (List.map dV) ((nodesT (tabW R)).map mL))=>Lr (tabW R) hT A A2 c c2 a ((y.below f).more f.size) Y;replace g:=aU g;replace n:=aU n;replace G:=aU G;replace H:=aU H;replace u:=aU u;replace v:=aU v;replace X:=trivial;replace y:=trivial;replace n6:=trivial;replace t:=trivial;replace a5:=trivial;replace a9:=trivial;have h3:3<w.heap.size:=U.lt (by have:=U.three;omega);generalize hN:(nodesT (tabW R)).length=N at*;replace hN:=aU hN;go_enter Tryz.func19,Tryz.ntmps19
 go_upto_region 1 with fail
 refine bM (fun Z=>aE Z w 48 #[.slice A N c]/\aE Z (w.heap.size+1) 25 #[(1048576:Int),(6400:Int),.slice V 1 cl]/\aE Z (w.heap.size+2) 70 zFr/\Below w w Z) ⟨((aE.new _ _ _).alloc _).alloc _,(aE.newAt _ _ _ (by simp)).alloc _,aE.newAt _ _ _ (by simp),(((Below.refl _ _).alloc (ae _) _).alloc (by simp) _).alloc (by simp;omega) _⟩ ?_;rintro w1 ⟨hX,hE,hR,hB⟩;have pm:=g.out w1 hB;obtain⟨S,Y⟩:=iG w.heap.size;rw[<-Y]at hX hE hR hB g n G H u v h3|-;replace Y:=aU Y;have e0:w1.cell? (S+1,0)=(1048576:Int):=hE.cell 0;have e1:w1.cell? (S+1,1)=(6400:Int):=hE.cell 1;have e2:w1.cell? (S+1,2)=some (.slice V 1 cl):=hE.cell 2;go_upto_region 4 with(go_at_call 16;go_loud (refine pm.mono ?_;rintro e w2 ⟨rfl,z⟩))
 have I:=hX.below z hX.lt;have em:=hE.below z hE.lt;have J:=hR.below z hR.lt;have hs1:=hR.lt;have eq:=hB.trans (z.mono (by omega));have x0:w2.cell? S=some (.slice A N c):=I.cell 0;have qr:=n.out w2 eq;clear pm z hE hX hR hB e0 e1 e2;go_upto_region 7 with(go_at_call 23;go_loud (refine qr.mono ?_;rintro e w3 ⟨rfl,B⟩))
 have K:=I.below B I.lt;have ge:=em.below B em.lt;have L:=J.below B J.lt;have hs2:=J.lt;have g7:=eq.trans (B.mono (by omega));have x1:w3.cell? S=some (.slice A N c):=K.cell 0;have rg:=G.out w3 g7;clear qr B I em J eq x0;go_upto_region 10 with(go_at_call 24;go_loud (refine rg.mono ?_;rintro e M ⟨A4,c4,rfl,C,un⟩))
 have ut:=K.below C K.lt;have g8:=ge.below C ge.lt;have O:=L.below C L.lt;have hs3:=L.lt;have P:=g7.trans (C.mono (by omega));have x2:M.cell? S=some (.slice A N c):=ut.cell 0;have wl:dU M M A4 52 (List.map dV) ((nodesT (tabW R)).map mL):=TH (dU.qI (fl:=fun x=>(mL x).map dV) Fi (by decide) un);have wn:=H.out M P A4 c4 wl;have hs4:=O.lt;clear rg C K ge L g7 x1 un wl;go_wp2_with (first|(go_at_call 25;go_loud (refine wn.mono ?_;rintro e s ⟨q,rfl,p,ii⟩))|refine dm 66 _ _ rfl rfl ?_)
 refine⟨?_⟩;have Q:q.Ok:=ii.ok;refine dK q.arr rfl rfl rfl rfl (aE.new _ _ _) (by rw[Bc.size Q];rfl) (bS Q) (Bc.all Q) ?_;intro w6 ww Do;simp only[Act.put,zA,zB,zC];have H1:=v.out s (P.trans (p.mono (by omega)));have o:=Xd (lo:=M.heap.size) H1 (by omega) (ae _);have k:Below s s w6:=((Below.refl _ _).alloc (ae _) _).trans (Do.below (Nat.le_refl _));have am:RA (Fj F s M s) s (mO (M5 (tabW R))) q.cells:=XX ii (fun b h1 h2=>by unfold Fj;rw[aS ⟨h1,h2⟩]);have T:∀b,b<M.heap.size->Fj F s M s b=F b:=fun b h=>by unfold Fj;rw[aI (by omega)]
 generalize Fj F s M s.heap.size=F5 at*;have hk6:Gk F5 w6:=o.below k (fun b f=>o.lt f);have D:=am.move (Kept.below k (fun b f=>o.lt f)) (o9 _ (WM _));have hs5:=p.size;have io:=(g8.below p g8.lt).below k (by omega);have ip:=(O.below p O.lt).below k (by omega);have In:=(P.trans (p.mono (by omega))).trans (k.mono (by omega));have UV:RA F5 w6 (nI m) [(1048576:Int),(6400:Int),.slice V 1 cl]:=by
  refine RA.cons (.i _ _) (RA.cons (.i _ _) (RA.cons ?_ (RA.nil _ _)));refine hl.move (fun b f=>?_) (by
   show ln (.l 1 [[iN m]]);exact .l 1 _ (by simp) (by decide) (fun i r j d a1 a2=>by
    match i,a1 with
    |0,a1=>
     cases a1
     match j,a2 with
     |0,a2=>cases a2;exact .i _ _
     |j+1,a2=>simp at a2
    |i+1,a1=>simp at a1))
  have hlt:b<S:=by rw[Y.out];exact U.lt f
  exact⟨T b (by omega),In.block b hlt⟩
 have hQs:s.heap.size<w6.heap.size:=ww.lt;generalize s.heap.size=g5 at*;rw[<-I1]at D;have WF:=PT ha1 ha2 (bZ R) q1 q2 q3 hk6 UV D;have i8:∀b,b<S->F5 b=F b:=fun b h=>T b (by omega);replace i8:=aU i8;have jp:F5 (S+2)=0:=by rw[T _ (by omega)];exact U.fresh _ (by rw[<-Y.out];omega)
 replace jp:=aU jp;have e0:w6.cell? (S+1,0)=(1048576:Int):=io.cell 0;have e1:w6.cell? (S+1,1)=(6400:Int):=io.cell 1;have e2:w6.cell? (S+1,2)=some (.slice V 1 cl):=io.cell 2;have hs6:=ip.lt;clear wn p ii Do H1 o k am T ut g8 O P x2 UV D;go_wp2_with (refine aX 66 rfl ?_)
 refine⟨eu rfl rfl rfl ww Tryz.underlying66 rfl (bS Q) ?_⟩;simp only[Act.put,zA,zB,zC];go_wp2_with (first|(go_at_call 26;go_loud (refine WF.mono ?_;rintro e w7 ⟨F7,us,rfl,E,k,hk7,WP⟩))|refine dm 70 _ _ rfl rfl ?_)
 refine⟨?_⟩;have lw:us.length=67:=by rw[E.len,yf]
 have hR7:=ip.below k ip.lt;refine dK us.toArray rfl rfl rfl rfl hR7 (by show 67=us.toArray.size;rw[bj,lw]) (lb lw) (kF E.one) ?_;intro w8 hR8 mp;simp only[Act.put,zA,zB,zC];go_wp2_with fail
 refine ej (I2 6 70 (S+2) 7 8 rfl rfl hR8 _ gu rfl (lb lw) _ _ rfl rfl) rfl ?_;have hz:F7 (S+2)=0:=by
  rw[WP (S+2) (by omega)];exact jp.out
 rw[<-Y.out];refine⟨us,F7,rfl,(In.trans (k.mono (by omega))).trans (mp.below (by omega)),hk7.dA mp hz,fun b h=>(WP b (by omega)).trans (i8.out b h),E.move (fun b f=>⟨rfl,mp.other b (fun e=>by have e:b=S+2:=e;rw[e,hz]at f;omega)⟩) (qX _)⟩
end
section
def jj(adv:Int)(C:List Int)(node:Nat)(a:List Nat)(y:Int):List dO:=(List.range a.length).map fun j=>vd adv C (node+1+2*j) j (a.getD j 0) y
def iq(adv:Int)(Rn:List (List Nat)):List dO:=(List.range Rn.length).flatMap fun i=>jj adv (bo adv Rn) (sr 2 Rn i) (Rn.getD i []) (fU Rn i)
theorem po:∀l:List dO,dO.jF l=l.flatMap fun k=>k::k.desc
 |[]=>rfl
 |k::l=>by
  rw[bR,<-po l];show k::(k.desc++dO.jF l)=_;rfl
theorem TR(adv:Int)(C:List Int)(S:Int)(node:Nat)(a:List Nat)(y:Int):(Fg adv C S node a y).desc=jj adv C node a y:=by
 rw[oB,po];show((List.range a.length).map fun j=>vd adv C (node+1+2*j) j (a.getD j 0) y).flatMap _=_;rw[adB];unfold jj;induction List.range a.length with
 |nil=>rfl
 |cons j l ih=>
  rw[bR,bV,ih,oB];rfl
theorem sd(adv:Int)(Rn:List (List Nat)):(ja adv Rn).desc=wF adv Rn::(List.range Rn.length).flatMap fun i=>Fg adv (bo adv Rn) (Num.cB (bo adv Rn) (bo adv Rn).length) (sr 2 Rn i) (Rn.getD i []) (fU Rn i)::jj adv (bo adv Rn) (sr 2 Rn i) (Rn.getD i []) (fU Rn i):=by
 rw[oB];show dO.jF [wF adv Rn]=_;rw[po,bR,ady,fh,oB,po];show wF adv Rn::(vf adv _ _ Rn).flatMap _=_;unfold vf;rw[adB]
 congr 2
 funext i
 rw[TR]
theorem se{α:Type}(f:dO->List α)(adv:Int)(Rn:List (List Nat))(a:f (wF adv Rn)=[])(b:∀i,f (Fg adv (bo adv Rn) (Num.cB (bo adv Rn) (bo adv Rn).length) (sr 2 Rn i) (Rn.getD i []) (fU Rn i))=[]):(ja adv Rn).desc.flatMap f=(iq adv Rn).flatMap f:=by
 rw[sd,bR,a,List.nil_append,adi];unfold iq;rw[adi]
 congr 1
 funext i
 rw[bR,b,List.nil_append]
theorem Lz(adv:Int)(Rn:List (List Nat)):xl (ja adv Rn)=(iq adv Rn).flatMap wH++(iq adv Rn).flatMap (fun t=>vj t.runs):=by
 unfold xl;have a:vo (ja adv Rn).desc=(iq adv Rn).flatMap wH:=se wH adv Rn rfl (fun i=>rfl);have b:xj (ja adv Rn).desc=(iq adv Rn).flatMap (fun t=>vj t.runs):=se (fun t=>vj t.runs) adv Rn rfl (fun i=>rfl);rw[a,b];show[]++_++[]++_=_;rw[dt,fh]
section
variable{adv:Int}(ha1:1<=adv)(ha2:adv<=500){Rn:List (List Nat)}(hR:Rn.length<=6)(hRl:∀r∈Rn,r.length<=6)(hRn:∀r∈Rn,∀n∈r,1<=n/\n<=9)
include ha1 ha2 hR hRl hRn
theorem LA(i:Nat):Rn.getD i []=[]\/Rn.getD i []∈Rn:=by
 rw[ah];cases h:Rn[i]? with
 |none=>exact .inl rfl
 |some r=>exact .inr (ag h)
theorem uB{i j:Nat}(a:j<(Rn.getD i []).length)(node:Nat)(y:Int):xF (vd adv (bo adv Rn) node j ((Rn.getD i []).getD j 0) y):=by
 have c:Rn.getD i []∈Rn:=by
  rcases LA ha1 ha2 hR hRl hRn i with h|h
  .rw[h]at a;simp at a
  .exact h
 have d:=(iR Rn [] 6 (by simp) hRl).2.2 _ c;have b:j<(bo adv Rn).length:=by simp only[bo,aj];omega
 have e:=r7 ha1 ha2 hRn j b;have g:1<=(Rn.getD i []).getD j 0:=by
  rw[ah,af a];exact(hRn _ c _ (jn a)).1
 refine⟨.inr (.inr (.inr ⟨rfl,rfl⟩)),.inr ⟨?_,show(0:Int)<1280 by decide⟩,fun k f=>?_⟩
 .show 0<(bo adv Rn).getD j 0;omega
 .rw[bG.1 f];refine⟨?_,show(0:Int)<1280 by decide⟩;show 0<(((Rn.getD i []).getD j 0:Nat):Int)*adv;exact Int.mul_pos (by omega) (by omega)
theorem Xk:∀k∈(ja adv Rn).desc,xF k:=by
 intro k a;rw[sd]at a;rcases aw.1 a with rfl|a
 .exact⟨.inr (.inl ⟨rfl,rfl⟩),.inl rfl,fun y b=>by cases b⟩
 .obtain⟨i,d,a⟩:=List.mem_flatMap.1 a;rcases aw.1 a with rfl|a
  .exact⟨.inr (.inr (.inl ⟨rfl,rfl⟩)),.inl rfl,fun y b=>by cases b⟩
  .obtain⟨j,c,rfl⟩:=List.mem_map.1 a;exact uB ha1 ha2 hR hRl hRn (List.mem_range.1 c) _ _
omit ha1 ha2 hR hRl hRn in
theorem Xl(adv:Int)(Rn:List (List Nat)):xF (ja adv Rn):=⟨.inl ⟨rfl,rfl⟩,.inl rfl,fun y a=>by cases a⟩
theorem TS:PX 4 (ja adv Rn):=by
 refine⟨by simp[ja,dO.kids],fun k a=>?_⟩;rw[bG.1 (show k∈[wF adv Rn]from a)];refine⟨by simp[wF,vf,dO.kids];omega,fun r b=>?_⟩;obtain⟨i,e,rfl⟩:=List.mem_map.1 (show r∈(List.range Rn.length).map _ from b);refine⟨?_,fun c d=>?_⟩
 .show((List.range (Rn.getD i []).length).map _).length<=1000;rw[aj,ke];rcases LA ha1 ha2 hR hRl hRn i with h|h
  .rw[h];simp
  .have:=hRl _ h;omega
 .obtain⟨j,f,rfl⟩:=List.mem_map.1 (show c∈(List.range (Rn.getD i []).length).map _ from d);exact⟨by simp[vd,dO.kids],fun k a=>by cases a⟩
theorem Fm{m:Nat}:∀(l:List Nat),(∀x∈l,x<=m)->l.sum<=m*l.length
 |[],_=>by simp
 |x::l,h=>by
  have b:=h x (by simp);have c:=Fm l fun y a=>h y (by simp[a]);rw[lI,aW,NE];omega
theorem I8:(ja adv Rn).desc.length<=50:=by
 rw[sd,aW,li];have:=Fm ha1 ha2 hR hRl hRn (m:=7) ((List.range Rn.length).map fun i=>(Fg adv (bo adv Rn) (Num.cB (bo adv Rn) (bo adv Rn).length) (sr 2 Rn i) (Rn.getD i []) (fU Rn i)::jj adv (bo adv Rn) (sr 2 Rn i) (Rn.getD i []) (fU Rn i)).length) (fun x a=>by
  obtain⟨i,_,rfl⟩:=List.mem_map.1 a;unfold jj;rw[aW,aj,ke];rcases LA ha1 ha2 hR hRl hRn i with h|h
  .rw[h];simp
  .have:=hRl _ h;omega)
 rw[aj,ke]at this;omega
theorem Xm:runN (ja adv Rn).desc<=50:=by
 have b:∀k∈(ja adv Rn).desc,k.runs.length<=1:=by
  intro k a;rw[sd]at a;rcases aw.1 a with rfl|a
  .simp[wF,dO.runs]
  .obtain⟨i,d,a⟩:=List.mem_flatMap.1 a;rcases aw.1 a with rfl|a
   .simp[Fg,dO.runs]
   .obtain⟨j,e,rfl⟩:=List.mem_map.1 a;simp[vd,dO.runs]
 unfold runN;have:=Fm ha1 ha2 hR hRl hRn (m:=1) ((ja adv Rn).desc.map fun t=>t.runs.length) (fun x c=>by
  obtain⟨k,a,rfl⟩:=List.mem_map.1 c;exact b k a)
 rw[aj]at this;have:=I8 ha1 ha2 hR hRl hRn;omega
end
theorem TT(adv:Int)(Rn:List (List Nat)):AP (ja adv Rn)=2*(iq adv Rn).length:=by
 unfold AP;have f:∀(l:List dO),mT l=(l.flatMap fun t=>if t.bg=0 then[]else[()]).length:=fun l=>by
  unfold mT wI;rw[li]
  congr 1
  refine fa fun t _=>?_;split<;>rfl
 have g:∀(l:List dO),runN l=(l.flatMap fun t=>t.runs).length:=fun l=>by
  unfold runN;rw[li]
 rw[f,g,se (fun t=>if t.bg=0 then[]else[()]) adv Rn rfl (fun i=>rfl),se (fun t=>t.runs) adv Rn rfl (fun i=>rfl)];have k:∀t∈iq adv Rn,t.bg≠0/\t.runs.length=1:=by
  intro t e;obtain⟨i,_,e⟩:=List.mem_flatMap.1 e;obtain⟨j,_,rfl⟩:=List.mem_map.1 e;exact⟨show(4278190335:Int)≠0 by decide,rfl⟩
 show 0+_+0+_=_;have m:∀(l:List dO),(∀t∈l,t.bg≠0/\t.runs.length=1)->(l.flatMap fun t=>if t.bg=0 then[]else[()]).length=l.length/\(l.flatMap fun t=>t.runs).length=l.length:=by
  intro l;induction l with
  |nil=>intro _;exact⟨rfl,rfl⟩
  |cons t l ih=>
   intro h;obtain⟨a,b⟩:=ih fun x o=>h x (by simp[o]);obtain⟨c,d⟩:=h t (by simp);rw[bR,bR,aO,aO,a,b,if_neg c,d];simp only[aW,eJ];exact⟨by omega,by omega⟩
 obtain⟨a,b⟩:=m _ k;rw[a,b];omega
end
section
attribute[local instance] dZ
def Z1(a:Int)(R:List (List Int)):List Value:=xl (ja a (bZ R))
def TU(a:Int)(R:List (List Int)):Nat:=AP (ja a (bZ R))
def P3{a:Int}(h:1<=a)(k:a<=500)(R:List (List Int))(F:Nat->Nat)(w:World)(y:Gk F w)(A:Option Addr)(c:Nat)(hA:RD F w (.l 9 ((nodesT (tabW R)).map x5)) (.slice A (nodesT (tabW R)).length c))(T:Value)(hc:RD F w Iu T)(z:Option Addr)(B:Nat)(hl:RD F w (gW [a]) (.slice z 1 B)):
 Calls tp 14 #[.agg #[.slice A (nodesT (tabW R)).length c],T,.agg #[(1048576:Int),(6400:Int),.slice z 1 B]] w fun e p=>∃v,e=tQ #[v,zQ]/\Below w w p/\p.ownsRow w 38 14 v (TU a R) (Z1 a R):=by
 obtain⟨K,L,M⟩:=AK R;have U:nodesT (tabW R)≠[]:=fun e=>by
  obtain⟨g8,⟨g7,V⟩,ii⟩:=kx (oh R);have:=V.pos;rw[e]at this;simp at this
 have m:=fun(p:World) (f:Below w w p)=>Ls h k R F p (y.below f (fun b f=>y.lt f)) A c (hA.move (Kept.below f (fun b f=>y.lt f)) (gL U).ok) T (hc.move (Kept.below f (fun b f=>y.lt f)) uL.ok) z B (hl.move (Kept.below f (fun b f=>y.lt f)) (by
  show ln (.l 1 [[iN a]]);exact .l 1 _ (by simp) (by decide) (fun i r j d C D=>by
   match i,C with
   |0,C=>
    cases C
    match j,D with
    |0,D=>cases D;exact .i _ _
    |j+1,D=>simp at D
   |i+1,C=>simp at C)))
 have q:=fun(W:Nat->Nat) (p:World) (u:List Value) (X:Gk W p) (Y:RA W p (tJ (ja a (bZ R))) u)=>P2 (F:=W) (TS h k K L M) X Y (Xl a (bZ R)) (Xk h k K L M) (by
  have h1:=I8 h k K L M;have h2:=Xm h k K L M;have h3:(ja a (bZ R)).runs.length=0:=rfl;omega)
 replace m:=aU m;replace q:=aU q;generalize hN:(nodesT (tabW R)).length=N at*;replace hN:=aU hN;go_enter Tryz.func14,Tryz.ntmps14
 go_upto_region 1 with fail
 refine bM (fun Z=>aE Z w 48 #[.slice A N c]/\aE Z (w.heap.size+1) 25 #[(1048576:Int),(6400:Int),.slice z 1 B]/\Below w w Z) ⟨(aE.new _ _ _).alloc _,aE.newAt _ _ _ (by simp),((Below.refl _ _).alloc (ae _) _).alloc (by simp) _⟩ ?_;rintro E ⟨hX,x,O⟩;have G:=m.out E O;obtain⟨S,P⟩:=iG w.heap.size;rw[<-P]at hX x O m|-;replace P:=aU P;have io:=x.lt;have e0:E.cell? (S+1,0)=(1048576:Int):=x.cell 0;have e1:E.cell? (S+1,1)=(6400:Int):=x.cell 1;have e2:E.cell? (S+1,2)=some (.slice z 1 B):=x.cell 2;have x0:E.cell? S=some (.slice A N c):=hX.cell 0;go_wp2_with (first|(go_at_call 19;go_loud (refine G.mono ?_;rintro e Q ⟨u,F2,rfl,s,n,am,g⟩))|refine dm 70 _ _ rfl rfl ?_)
 refine⟨?_⟩;have t:u.length=67:=by rw[g.len,yf]
 refine dK u.toArray rfl rfl rfl rfl (aE.new _ _ _) (by show 67=u.toArray.size;rw[bj,t]) (lb t) (kF g.one) ?_;intro w3 H I;simp only[Act.put,zA,zB,zC];have o:Below Q Q w3:=((Below.refl _ _).alloc (ae _) _).trans (I.below (Nat.le_refl _));have a5:=n.below o (fun b f=>n.lt f);have J:=g.move (Kept.below o (fun b f=>n.lt f)) (qX _);have ip:=s.size;have a9:=(O.trans (s.mono (by omega))).trans (o.mono (by omega));have em:=q.out F2 w3 u a5 J;have i8:Q.heap.size<w3.heap.size:=H.lt;generalize Q.heap.size=g2 at*;clear G hX x O e0 e1 e2 x0 s am I o n g;go_wp2_with (refine dg 70 _ rfl rfl ?_)
 refine⟨eu rfl rfl rfl H Tryz.underlying70 rfl (lb t) ?_⟩;simp only[Act.put,zA,zB,zC];go_wp2_with (go_at_call 20;go_loud (refine em.mono ?_;rintro e w4 ⟨v4,rfl,eq,ge⟩))
 go_ret2
 rw[<-P.out];exact⟨_,rfl,a9.trans (eq.mono (by omega)),eW ge (by omega)⟩
def Fo{a c:Nat}{A:Option Addr}{L:List Nd}(m:Gk F w)(n:L≠[])(k:w.ownsRow a 121 9 (.slice A L.length c) L.length (L.flatMap Nd.cells))(o:∀g,(Value.slice A L.length c).ownBlock=some g->F g=0):
 ∃j,Gk j w/\RD j w (.l 9 (L.map x5)) (.slice A L.length c)/\Kept F w j w/\∀b,b<a->j b=F b:=by
 obtain⟨g,u,p,v,-,q⟩:=dL k (List.length_pos_iff.2 n);injection p with s y t;subst s t;have f:F g=0:=o g rfl;have:=RA.row (rows:=L.map x5) k f (by rw[aj]) (fun r h=>by obtain⟨x,_,rfl⟩:=List.mem_map.1 h;rfl) (by
  have e:L.flatMap Nd.cells=(L.map x5).flatten.map dV:=by
   rw[<-List.flatMap_def,List.map_flatMap]
   congr 1
   funext x
   exact(Si x).symm
  rw[e];refine nr ?_;rw[aQ];intro d i;obtain⟨r,h,i⟩:=List.mem_flatten.1 i;obtain⟨x,_,rfl⟩:=List.mem_map.1 h;exact aQ.1 (MY x) d i) (fun r h d i=>by
  obtain⟨x,_,rfl⟩:=List.mem_map.1 h;exact aaC (aQ.1 (MY x) d i))
 exact⟨_,m.up f q,this.1,this.2,fun b z=>bI _ _ _ (by omega)⟩
end
section
attribute[local instance] dZ
def I9(a:Int):ln (gW [a]):=by
 show ln (.l 1 [[iN a]]);exact .l 1 _ (by simp) (by decide) (fun i r j d b c=>by
  match i,b with
  |0,b=>
   cases b
   match j,c with
   |0,c=>cases c;exact .i _ _
   |j+1,c=>simp at c
  |i+1,b=>simp at b)
def Ja{d:Int}(am:1<=d)(a5:d<=500)(R:List (List Int))(F:Nat->Nat)(w:World)(I:Gk F w){o:Nat}(hg:∀(j:Nat) u,(nG (tabW R))[j]? =some u->w.cell? (g,o+j)=some (.int .u8 (u.toNat:Int)))(J:g<w.heap.size)
 (X:Value)(hc:RD F w Iu X)(m:Option Addr)(z:Nat)(hl:RD F w (gW [d]) (.slice m 1 z)):
 Calls tp 9 #[(g,o,(nG (tabW R)).length,cap),X,.agg #[(1048576:Int),(6400:Int),.slice m 1 z]] w fun e a=>∃v,e=tQ #[v,zQ]/\Below w w a/\a.ownsRow w 38 14 v (TU d R) (Z1 d R):=by
 have a9:nodesT (tabW R)≠[]:=fun e=>by
  obtain⟨ip,⟨io,em⟩,i8⟩:=kx (oh R);have:=em.pos;rw[e]at this;simp at this
 have B:gB w w m [d]:=by
  obtain⟨A',c',he,hi⟩:=r8 I hl;injection he with Y e2 e3;rw[Y];exact hi
 have n:=fun(a:World) (f:Below w w a)=>IA R 1048576 6400 [d] m z a (g:=g) (o:=o) (cap:=cap) (fun j u hj=>(f.cell (p:=(g,o+j)) J).trans (hg j u hj)) (Nat.lt_of_lt_of_le J f.size) (by decide) (by decide) (by decide) (by decide) (by simp) (fun x hx=>by rw[bG.1 hx];omega) ((B.below f).more f.size);have q:∀a,Below w w a->Gk F a:=fun a f=>I.below f (fun b f=>I.lt f);have h:∀a,Below w w a->Kept F w F a:=fun a f=>Kept.below f (fun b f=>I.lt f);replace n:=aU n;replace q:=aU q;replace h:=aU h;replace hg:=trivial;replace B:=trivial;have E:=fun(K:Nat->Nat) (a:World) (h1:Gk K a) (A:Option Addr) (c:Nat) (h2:RD K a (.l 9 ((nodesT (tabW R)).map x5)) (.slice A (nodesT (tabW R)).length c)) (h3:RD K a Iu X) (h4:RD K a (gW [d]) (.slice m 1 z))=>P3 am a5 R K a h1 A c h2 X h3 m z h4;replace E:=aU E;have i:=fun(a:World) (L c:Nat) (A:Option Addr) (h1:Gk F a) (ho:a.ownsRow L 121 9 (.slice A (nodesT (tabW R)).length c) (nodesT (tabW R)).length ((nodesT (tabW R)).flatMap Nd.cells)) (hz:∀g,(Value.slice A (nodesT (tabW R)).length c).ownBlock=some g->F g=0)=>Fo h1 a9 ho hz;replace i:=aU i;generalize hN:(nodesT (tabW R)).length=N at*;generalize M:(nG (tabW R)).length=Dl at*;replace hN:=aU hN;replace M:=aU M;go_enter Tryz.func9,Tryz.ntmps9
 go_upto_region 1 with fail
 refine bM (fun Z=>aE Z w 25 #[(1048576:Int),(6400:Int),.slice m 1 z]/\Below w w Z) ⟨aE.new _ _ _,(Below.refl _ _).alloc (ae _) _⟩ ?_;rintro w1 ⟨C,hB⟩;have O:=n.out w1 hB;obtain⟨S,P⟩:=iG w.heap.size;rw[<-P]at C hB n q h|-;replace P:=aU P;have jp:=C.lt;have e0:w1.cell? S=(1048576:Int):=C.cell 0;have Y:w1.cell? (S,1)=(6400:Int):=C.cell 1;have e2:w1.cell? (S,2)=some (.slice m 1 z):=C.cell 2;go_upto_region 4 with(go_at_call 13;go_loud (refine O.mono ?_;rintro e w2 ⟨r,s,rfl,t,Q⟩))
 have lw:=t.size;have T:=hB.trans (t.mono (by omega));have G:=(C.below t C.lt).alloc (.cells #[.slice r N s] 48);have U:aE (w2.alloc (.cells #[.slice r N s] 48)) w2 48 #[.slice r N s]:=aE.new _ _ _;have y:=T.alloc (by omega) (.cells #[.slice r N s] 48);have H:=Q.alloc (.cells #[.slice r N s] 48);obtain⟨F3,eq,D,k,ge⟩:=i.out _ _ s r (q.out _ y) H (fun b f=>I.fresh b (by rw[<-P.out];have:=(H.lt b f).1;omega));have V:=(hc.move (h.out _ y) uL.ok).move k uL.ok;have W:=(hl.move (h.out _ y) (I9 d)).move k (I9 d);have g7:=E.out F3 _ eq r s D V W;clear O C hB e0 Y e2 t T Q H D k ge V W;generalize w2.alloc (.cells #[.slice r N s] 48)=w3 at*;generalize w2.heap.size=g2 at*;have mp:=U.lt;have x0:w3.cell? g2=some (.slice r N s):=U.cell 0;have e0:w3.cell? S=(1048576:Int):=G.cell 0;have Y:w3.cell? (S,1)=(6400:Int):=G.cell 1;have e2:w3.cell? (S,2)=some (.slice m 1 z):=G.cell 2;go_wp2_with (go_at_call 14;go_loud (refine g7.mono ?_;rintro e w4 ⟨v4,rfl,g8,ii⟩))
 go_ret2
 rw[<-P.out];exact⟨_,rfl,y.trans (g8.mono (by omega)),eW ii (by omega)⟩
