/- part of topCells.proved -/
import Derived.Test.YtkkiefcapbddkaaGreatDoorCx
import Derived.Test.YtkkiefcapbddkaaGreatDoorTq
set_option linter.all false
set_option maxRecDepth 1000000
set_option maxHeartbeats 0
noncomputable section
namespace Go.Abs
open Go.RowKit Go.Proofs YtkkiefcapbddkaaGreatDoor Mem ep Num
section
theorem TF(adv:Int)(C:List Int)(S:Int)(Rn:List (List Nat)):lit (fJ (fN adv C S Rn Rn.length))=true:=by rw[<-C7];exact IU _
theorem PP:fW tp 133:=fun _ _=>rfl
theorem PQ:fW tp 131:=fun _ _=>rfl
theorem PR:fW tp 134:=fun _ _=>rfl
theorem PS{adv:Int}{Rn:List (List Nat)}(hRl:∀r∈Rn,r.length<=6):(bo adv Rn).length<=6:=by
 have:=(iR Rn [] 6 (by simp) hRl).1;simpa[bo]using this
section
variable{adv:Int}(ha1:1<=adv)(ha2:adv<=500)(Rn:List (List Nat))(hR:Rn.length<=6)(hRl:∀r∈Rn,r.length<=6)(hRn:∀r∈Rn,∀n∈r,1<=n/\n<=9)
include ha1 ha2 hR hRl hRn
theorem Xc: @PC (kh adv (cB (bo adv Rn) (bo adv Rn).length) (fU Rn Rn.length) (il (gQ 2 (pf Rn))) (gW (bo adv Rn)) (fJ (fN adv (bo adv Rn) (cB (bo adv Rn) (bo adv Rn).length) Rn Rn.length))) tp 133 [pW,.a IV,.d (iN 1048576),.d (.b false)] (.d (.o 8)):=by
 letI:=kh adv (cB (bo adv Rn) (bo adv Rn).length) (fU Rn Rn.length) (il (gQ 2 (pf Rn))) (gW (bo adv Rn)) (fJ (fN adv (bo adv Rn) (cB (bo adv Rn) (bo adv Rn).length) Rn Rn.length))
 refine PC.Ff rfl rfl rfl fun F w R t f=>?_;obtain⟨a,z,rfl,M,f⟩:=f.ph;obtain⟨b,z,rfl,N,f⟩:=f.ph;obtain⟨c,z,rfl,A,f⟩:=f.ph;obtain⟨d,z,rfl,B,f⟩:=f.ph;cases f.TD;obtain⟨J,rfl,C⟩:=GV.ra (ds:=sn) M;obtain⟨K,rfl,D⟩:=GV.ra N;have A:=A.cG;have B:=B.cG;cases A;cases B;have k: @RA dZ F w (nI adv) J:=wC C IZ;have m: @RA dZ F w (mO (Io (pf Rn))) K:=by
  rw[Fh];exact wC D (IY dZ (wy (ox _ _)))
 refine(E8 ha1 ha2 Rn (by omega) (fun r E=>by have:=hRl r E;omega) hRn w F t J k K m).mono ?_;rintro e u ⟨g,S,rfl,G,p,O,T,h⟩;have P:F g=0:=t.fresh g G;have H:g<u.heap.size:=h.lt;have I:Gk F u:=t.below p (fun b p=>t.lt p);refine⟨_,up F g (bo adv Rn).length,rfl,p,I.up P H,fun b p=>bI _ _ _ (by omega),.d _ _ ?_⟩;refine RD.o 8 _ ?_;show RD (up F g (bo adv Rn).length) u (gW (bo adv Rn)) _;have:=RD.l (F:=up F g (bo adv Rn).length) (w:=u) 1 ((bo adv Rn).map fun x=>[iN x]) g 0 (bo adv Rn).length (ints (bo adv Rn)) 2 (0,0) h (by rw[aj,aR];omega) (by rw[aR,Ce];exact ae _) (by rw[Ce];omega) (by rw[aj];exact ae _)
  (fun r E=>by obtain⟨x,_,rfl⟩:=List.mem_map.1 E;rfl)
  (
   fun i r j d v q s L=>by
   rw[ai]at q;cases y:(bo adv Rn)[i]? with
   |none=>rw[y]at q;cases q
   |some x=>
    rw[y]at q;cases q;have Q:=(List.getElem?_eq_some_iff.1 y).1
    match j,s with
    |0,s=>
     cases s;rw[show 0+i*1+0=i by omega,Ht _ Q,List.getD_eq_getElem?_getD,y]at L;cases L;exact .i _ _
    |j+1,s=>simp at s)
 rw[aj]at this;exact this
theorem ZU: @PC (kh adv (cB (bo adv Rn) (bo adv Rn).length) (fU Rn Rn.length) (il (gQ 2 (pf Rn))) (gW (bo adv Rn)) (fJ (fN adv (bo adv Rn) (cB (bo adv Rn) (bo adv Rn).length) Rn Rn.length))) tp 131 [.d (.o 8)] (.d PJ):=by
 letI:=kh adv (cB (bo adv Rn) (bo adv Rn).length) (fU Rn Rn.length) (il (gQ 2 (pf Rn))) (gW (bo adv Rn)) (fJ (fN adv (bo adv Rn) (cB (bo adv Rn) (bo adv Rn).length) Rn Rn.length))
 have j:=PS (adv:=adv) hRl;refine PC.Ff rfl rfl rfl fun F w q h b=>?_;obtain⟨a,s,rfl,f,b⟩:=b.ph;cases b.TD;have f:=f.cG;have k:RD F w (gW (bo adv Rn)) a:=X2 _ (C8 _) f;obtain⟨A,c,rfl,l⟩:=r8 h k;refine(Go.Proofs.YtkkiefcapbddkaaGreatDoor.CZ (bo adv Rn) A c w w (by omega) l).mono ?_;rintro e t ⟨rfl,rfl⟩;refine⟨_,F,rfl,Below.refl _ _,h,fun _ _=>rfl,.d _ _ ?_⟩;have g:=r7 ha1 ha2 hRn;have m:∀i,0<=(bo adv Rn).getD i 0/\(bo adv Rn).getD i 0<=4500:=fun i=>by
  by_cases p:i<(bo adv Rn).length
  .have:=g i p;omega
  .rw[ah,fe (by omega)];simp
 have:=yc m (bo adv Rn).length (by omega);exact RD.x .i64 (.v 5) 0 40500 this.1 (by show cB (bo adv Rn) (bo adv Rn).length<=40500;omega)
theorem ZV: @PC (kh adv (cB (bo adv Rn) (bo adv Rn).length) (fU Rn Rn.length) (il (gQ 2 (pf Rn))) (gW (bo adv Rn)) (fJ (fN adv (bo adv Rn) (cB (bo adv Rn) (bo adv Rn).length) Rn Rn.length))) Tryz.prog 134 [pW,.a IV,inV,.d (.o 8)] aa3:=by
 letI:=kh adv (cB (bo adv Rn) (bo adv Rn).length) (fU Rn Rn.length) (il (gQ 2 (pf Rn))) (gW (bo adv Rn)) (fJ (fN adv (bo adv Rn) (cB (bo adv Rn) (bo adv Rn).length) Rn Rn.length))
 refine PC.Ff rfl rfl rfl fun F w R D f=>?_;obtain⟨a,l,rfl,I,f⟩:=f.ph;obtain⟨b,l,rfl,J,f⟩:=f.ph;obtain⟨c,l,rfl,K,f⟩:=f.ph;obtain⟨d,l,rfl,L,f⟩:=f.ph;cases f.TD;obtain⟨E,rfl,m⟩:=GV.ra (ds:=sn) I;obtain⟨G,rfl,p⟩:=GV.ra J;obtain⟨q,rfl,s⟩:=GV.ra K;have M:RD F w (gW (bo adv Rn)) d:=X2 _ (C8 _) L.cG;obtain⟨A,c,rfl,N⟩:=r8 D M;have g: @RA dZ F w (nI adv) E:=wC m IZ;have i: @RA dZ F w (mO (Io (pf Rn))) G:=by
  rw[Fh];exact wC p (IY dZ (wy (ox _ _)))
 have j:q=[.int .i64 0,.int .i64 0,.int .i64 (cB (bo adv Rn) (bo adv Rn).length),.int .i64 0,.bool false]:=by
  have h:= @K7 this dZ F w _ q s (by simp[jw,pX,PJ,iN]);have e:= @ku dZ F w _ q (by simp[kC,pD,PJ,iN,dP]) h;rw[e];rfl
 subst j;refine(Lo ha1 ha2 Rn hR hRl hRn w F D E g G i A c N _).mono ?_;rintro e t ⟨H,k,rfl,O,u,P,y⟩;have B:=AA Rn Rn.length hR;refine⟨_,k,rfl,O,u,P,?_⟩;have Q:RD k t (.o 9) H:=RD.o 9 _ (wv dZ _ y (TF adv (bo adv Rn) (cB (bo adv Rn) (bo adv Rn).length) Rn));have C:RA k t [.z,.o 9,.z,ZS] [.slice none 0 0,H,.slice none 0 0,.int .i64 (fU Rn Rn.length)]:=RA.cons .z (RA.cons Q (RA.cons .z (RA.cons (RD.x .i64 (.v 6) 0 12000 B.1 (by show fU Rn Rn.length<=12000;omega)) (RA.nil k t))));exact C.gv
theorem PT{F:Nat->Nat}{w:World}(M:Gk F w){i y:List Value}(N: @RA dZ F w (nI adv) i)(J: @RA dZ F w (mO (M5 (pf Rn))) y):
 Calls tp 26 #[.agg i.toArray,.agg y.toArray] w fun e q=>∃j t,e=.returned (.agg t.toArray)/\ @RA dZ j q (tJ (ja adv Rn)) t/\Below w w q/\Gk j q/\∀b,b<w.heap.size->j b=F b:=by
 have O:=Xc ha1 ha2 Rn hR hRl hRn;have P:=ZU ha1 ha2 Rn hR hRl hRn;have Q:=ZV ha1 ha2 Rn hR hRl hRn;have A:=fun h: @RA dZ F w (nI adv) i=> @Ln adv (cB (bo adv Rn) (bo adv Rn).length) (fU Rn Rn.length) (il (gQ 2 (pf Rn))) (gW (bo adv Rn)) (fJ (fN adv (bo adv Rn) (cB (bo adv Rn) (bo adv Rn).length) Rn Rn.length)) ha1 ha2 F w i h;have B:=A N;have C: @RA (kh adv (cB (bo adv Rn) (bo adv Rn).length) (fU Rn Rn.length) (il (gQ 2 (pf Rn))) (gW (bo adv Rn)) (fJ (fN adv (bo adv Rn) (cB (bo adv Rn) (bo adv Rn).length) Rn Rn.length))) F w X1 y:=by
  rw[TE,Fh]at J;refine wC J (pH.app (a:=iN 1::iN 0::iN 0::(bh 1 0++[.s []])) (a':=iN 1::iN 0::iN 0::(bh 1 0++[.s []])) (pH.lit (fun d R=>C5 (aQ.1 (show(iN 1::iN 0::iN 0::(bh 1 0++[.s []])).all dP=true from rfl) d R))) (pH.one (fun F w u h=>Tw h (Lm dZ (wy (ox _ _))))))
 have K:((kh adv (cB (bo adv Rn) (bo adv Rn).length) (fU Rn Rn.length) (il (gQ 2 (pf Rn))) (gW (bo adv Rn)) (fJ (fN adv (bo adv Rn) (cB (bo adv Rn) (bo adv Rn).length) Rn Rn.length)))).G=gS:=rfl;have L:fJ (fN adv (bo adv Rn) (cB (bo adv Rn) (bo adv Rn).length) Rn Rn.length)=p7 (vf adv (bo adv Rn) (cB (bo adv Rn) (bo adv Rn).length) Rn):=(C7 _ _ _ _).symm;have k:pH (kh adv (cB (bo adv Rn) (bo adv Rn).length) (fU Rn Rn.length) (il (gQ 2 (pf Rn))) (gW (bo adv Rn)) (fJ (fN adv (bo adv Rn) (cB (bo adv Rn) (bo adv Rn).length) Rn Rn.length))) dZ W8 (tJ (wF adv Rn)):=by
  have D:= @pH.pD (kh adv (cB (bo adv Rn) (bo adv Rn).length) (fU Rn Rn.length) (il (gQ 2 (pf Rn))) (gW (bo adv Rn)) (fJ (fN adv (bo adv Rn) (cB (bo adv Rn) (bo adv Rn).length) Rn Rn.length))) dZ (iN 3::iN 1::iN 1::(bh 4 0++([.s [],.z]++([iN 0,iN 0,PK,PL]++[iN 0,iN 0,.x .i64 (.sub (.sub (.add (.v 5) (.c 0)) (.c 0)) (.c 0)) 0 40500,.x .i64 (.sub (.sub (.add (.v 6) (.c 0)) (.c 0)) (.c 0)) 0 12000,.z])))) (by simp[jw,pX,PK,PL,bh,iN]);have E:=D.app (pH.one (d:=.o 9) (d':=p7 (vf adv (bo adv Rn) (cB (bo adv Rn) (bo adv Rn).length) Rn)) (fun F w u h=>by rw[<-L];exact aa7 _ (by rw[L];exact IU _) h));have e:tJ (wF adv Rn)= @kC (kh adv (cB (bo adv Rn) (bo adv Rn).length) (fU Rn Rn.length) (il (gQ 2 (pf Rn))) (gW (bo adv Rn)) (fJ (fN adv (bo adv Rn) (cB (bo adv Rn) (bo adv Rn).length) Rn Rn.length))) (iN 3::iN 1::iN 1::(bh 4 0++([.s [],.z]++([iN 0,iN 0,PK,PL]++[iN 0,iN 0,.x .i64 (.sub (.sub (.add (.v 5) (.c 0)) (.c 0)) (.c 0)) 0 40500,.x .i64 (.sub (.sub (.add (.v 6) (.c 0)) (.c 0)) (.c 0)) 0 12000,.z]))))++[p7 (vf adv (bo adv Rn) (cB (bo adv Rn) (bo adv Rn).length) Rn)]:=by
   rw[pg];simp[wF,dO.kind,dO.node,dO.disp,dO.bg,dO.rc,dO.ins,dO.runs,dO.kids,R4.ds,uX,kC,pD,Ex.val,bh,PK,PL,iN]
   and_intros<;>rfl
  rw[e];exact E
 have m:pH (kh adv (cB (bo adv Rn) (bo adv Rn).length) (fU Rn Rn.length) (il (gQ 2 (pf Rn))) (gW (bo adv Rn)) (fJ (fN adv (bo adv Rn) (cB (bo adv Rn) (bo adv Rn).length) Rn Rn.length))) dZ X3 (tJ (ja adv Rn)):=by
  have D:= @pH.pD (kh adv (cB (bo adv Rn) (bo adv Rn).length) (fU Rn Rn.length) (il (gQ 2 (pf Rn))) (gW (bo adv Rn)) (fJ (fN adv (bo adv Rn) (cB (bo adv Rn) (bo adv Rn).length) Rn Rn.length))) dZ (iN 1::iN 0::iN 0::(bh 1 0++([.s [],.z]++([iN 0,iN 0,iN 1048576,rH1]++([iN 0,iN 0,iN 1048576,rH2]++[.z]))))) (by simp[jw,pX,rH1,rH2,bh,iN]);have E:=D.app (pH.one (d:=.l 67 [W8]) (d':=p7 [wF adv Rn]) (fun F w u h=>Tw h k));have e:tJ (ja adv Rn)= @kC (kh adv (cB (bo adv Rn) (bo adv Rn).length) (fU Rn Rn.length) (il (gQ 2 (pf Rn))) (gW (bo adv Rn)) (fJ (fN adv (bo adv Rn) (cB (bo adv Rn) (bo adv Rn).length) Rn Rn.length))) (iN 1::iN 0::iN 0::(bh 1 0++([.s [],.z]++([iN 0,iN 0,iN 1048576,rH1]++([iN 0,iN 0,iN 1048576,rH2]++[.z])))))++[p7 [wF adv Rn]]:=by
   rw[pg];simp[ja,dO.kind,dO.node,dO.disp,dO.bg,dO.rc,dO.ins,dO.runs,dO.kids,R4.ds,uX,kC,pD,Ex.val,bh,rH1,rH2,iN];rfl
  rw[e];exact E
 letI:=kh adv (cB (bo adv Rn) (bo adv Rn).length) (fU Rn Rn.length) (il (gQ 2 (pf Rn))) (gW (bo adv Rn)) (fJ (fN adv (bo adv Rn) (cB (bo adv Rn) (bo adv Rn).length) Rn Rn.length))
 have orc1_ok:∀p∈Tt,kS tp p.1 p.2:=by
  intro p f;unfold Tt at f;rcases aw.1 f with rfl|f
  .exact .one ⟨PP,O⟩
  rcases aw.1 f with rfl|f
  .exact .one ⟨PQ,P⟩
  rcases aw.1 f with rfl|f
  .exact .one ⟨PR,Q⟩
  cases f
 have g:∀p∈Tu,kS tp p.1 p.2:=by
  intro p f;unfold Tu at f;rcases aw.1 f with rfl|f
  .exact .one (jy orc1_ok K TB)
  cases f
 have H:=(jy g K Xa).2;refine(H.mH rfl M (GL.cons (show GV (gF F) (fun _=>none) w pW (.agg i.toArray)from RA.gv B) (GL.cons C.gv GL.nil))).mono ?_;rintro e q ⟨v,j,rfl,S,I,T,U⟩;obtain⟨t,rfl,V⟩:=GV.ra S;exact⟨j,t,rfl,wC V m,I,T,U⟩
