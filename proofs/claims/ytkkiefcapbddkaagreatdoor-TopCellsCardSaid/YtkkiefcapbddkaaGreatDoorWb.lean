/- part of topCells.proved -/
import Derived.Test.YtkkiefcapbddkaaGreatDoorWa
set_option linter.all false
set_option maxRecDepth 1000000
set_option maxHeartbeats 0
noncomputable section
namespace Go.Abs
open Go.RowKit Go.Proofs YtkkiefcapbddkaaGreatDoor Mem ep Ord
def ET(f:FuncId)(WP:f=122\/f=123\/f=124)(w:World)(b:Bc)(hb:b.Ok)(C:List Bc)(i8:∀q∈C,q.Ok)(hn:C.length<=100)(A:Option Addr)(c:Nat)(hkv:b.kv=.slice A C.length c)(hR:dU w w A 57 Bc.cells C)(kd:Int)(pl:Bool)
 (hf:∀q∈C,∀w,Calls tp f #[.agg q.arr] w fun e w'=>e=false/\Below w w w'):
 Calls tp 121 #[.agg b.arr,kd,pl,.func (.func f) #[] #[]] w fun e w'=>∃v',e=.returned v'/\Below w w w'/\w'.ownsRow w 66 57 v' C.length (C.flatMap Bc.cells)/\(C=[]->v'=zn):=by
 rcases WP with rfl|rfl|rfl;all_goals
  obtain⟨i6,hi6,hy9,hy8,hy7⟩:=info_parts CB;replace i8:=aU i8;replace hf:=aU hf;have ip:=Bc.l7 hb.sty;rw[hkv]at ip;go_enter Tryz.func121,Tryz.ntmps121
  go_upto_region 3 with fail
  have qr:Below w w (((((w.alloc (.cells b.arr 66)).alloc (.cells #[kd] 3)).alloc (.cells #[pl] 4)).alloc (.cells #[zn] 64)).alloc (.cells #[zn] 64)):=
   (((((Below.refl _ _).alloc (ae _) _).alloc (by simp) _).alloc (by simp;omega) _).alloc (by simp;omega) _).alloc (by simp;omega) _
  refine bM (fun Z=>aE Z w 66 b.arr/\aE Z (w.heap.size+1+1+1) 64 #[zn]/\aE Z (w.heap.size+1+1+1+1) 64 #[zn]/\Below w w Z) ⟨(((((aE.new _ _ _).alloc _).alloc _).alloc _).alloc _),(aE.newAt _ _ _ (by simp)).alloc _,aE.newAt _ _ _ (by simp),qr⟩ ?_;clear qr;rintro w1 ⟨hX,hO,o,hB⟩;obtain⟨B,em⟩:=iG w.heap.size;rw[<-em]at hX hO o hB hR|-;replace em:=aU em;have rg:=o.lt;have e0:w1.cell? (B,56)=some (.slice A C.length c):=by rw[hX.cell 56];exact ip
  go_wp2_with fail
  go_loopw [18] (fun s wr=>∃(k:Nat) (v:Value),k<=C.length/\s=k/\aE wr (B+1+1+1) 64 #[v]/\aE wr (B+1+1+1+1) 64 #[zn]/\Below B w wr/\wr.ownsRow (B+5) 66 57 v k ((C.take k).flatMap Bc.cells)/\(k=0->v=zn)) (fun s _=>C.length-(intOf s).toNat)
  case atStart=>exact⟨0,_,Nat.zero_le _,rfl,hO,o,hB,dl _ _ _ _,fun _=>rfl⟩
  case round=>
   clear hX hO o hB e0 rg;obtain⟨k,v,hk,rfl,hO,o,hB,ho,jp⟩:=hrel;replace jp:=aU jp;by_cases hlt:k<C.length
   .have e1:=lJ k C.length (by omega);obtain⟨b0,un,q,rfl,hb0,HQ,hq⟩:=(hR.below hB).at_ hlt;have ut:=List.mem_of_getElem? HQ.out;have a:=i8.out q ut;have wl:wr.rangeAt b0 (un+k*57) q.arr.toList:=hq;replace hq:=trivial;obtain⟨A1,c1,rfl,-⟩:=aV ho;have rg:=o.lt;go_wp2_with (refine aX 66 rfl ?_)
    refine⟨bY rfl 66 _ rfl b0 (un+k*57) rfl q.arr _ wl Tryz.underlying66 rfl (bS a) ?_⟩;go_wp2_with (refine aX 66 rfl ?_)
    refine⟨dK q.arr rfl rfl rfl rfl (aE.new _ _ _) (by rw[Bc.size a];rfl) (bS a) (Bc.all a) ?_⟩;intro w2 eq Q;have wn:=(hB.alloc (by omega) _).trans (Q.below (by omega));have lw:=(hO.alloc _).dA Q (by omega);have ge:=(o.alloc _).dA Q (by omega);have ww:=aZ (ho.alloc _) (fun g hg _=>Q.other g (by have:=(ho.lt g hg).2;omega));have nox:B+5<=wr.heap.size:=by omega
    have Do:∀g,(Value.slice A1 k c1).ownBlock=some g->g≠wr.heap.size:=fun g hg=>by have:=(ho.lt g hg).2;omega
    generalize wr.heap.size=gx at*;clear Q hO o hB ho wl;go_wp2_with (refine aX 66 rfl ?_)
    refine⟨eu rfl rfl rfl eq Tryz.underlying66 rfl (bS a) ?_⟩;go_upto_region 8 with((first|go_at_call 122|go_at_call 123|go_at_call 124);go_loud (refine(hf.out q ut w2).mono ?_;rintro e w3 ⟨rfl,H⟩))
    have H1:=eq.below H eq.lt;have In:=lw.below H lw.lt;have UV:=ge.below H ge.lt;have mp:=ca ww H;have WF:=wn.trans (H.mono (by have:=ge.lt;omega));clear eq lw ge ww wn H;go_upto_region 9 with(go_at_call 190;go_loud (refine(Ij w3 UV).mono ?_;rintro e w4 ⟨rfl,p,I⟩))
    have R:=H1.dA p (by omega);have D:=In.dA p (by omega);have t:=aZ mp (fun g hg _=>p.other g (by have:=(mp.lt g hg).1;omega));have J:=WF.trans (p.below (by omega));clear H1 In UV mp WF p;obtain⟨ak,L⟩:∃ak,(C.take k).flatMap Bc.cells=ak:=⟨_,rfl⟩;rw[L]at t;replace L:=aU L;refine a8 ?_;refine Sr (S:=fun Z:World=>Z.cell? (B+1+1+1,0)=some (.slice A1 k c1)/\Z.rangeAt gx 0 q.cells) (fun n=>n==5||n==6||n==7) (.one 0 true (.one 1 true (.one 2 true (.one 3 false (.one 4 false (.two 5 (.two 6 (.one 7 false .nil) 7 (.one 6 false .nil)) 7 (.one 5 false (.one 6 false .nil)))))))) (by kernel_rfl) (by kernel_rfl) (fun n hn=>by simp at hn|-;omega) (by kernel_rfl) (by decide) (fun _ _ _ _ _ h=>h) (⟨D.drew.cell 0,R.drew.range⟩) (fun hS0=>?_);simp only[fL,aF,ap];(refine Ss (v:=?_) (Or.inl ⟨rfl,?_⟩) ?_;rotate_left;(intro w n6;(try dsimp only at n6);go_simp;try(with_reducible rfl));simp only[Act.put,zA,zB,zC]);(refine Ss (cQ rfl 66 _ rfl gx 0 rfl q.cells _ (fun w h=>h.2) Tryz.underlying66 rfl (by rw[bS a,Bc.size a,Bc.len a.sty])) ?_;simp only[Act.put,zA,zB,zC]);(refine Ss (v:=?_) (Or.inl ⟨rfl,?_⟩) ?_;rotate_left;(intro w n6;(try dsimp only at n6);go_simp;try(with_reducible rfl));simp only[Act.put,zA,zB,zC]);refine vY rfl rfl (fun K i=>?_);refine gK (v:=(w4.drew.heap.size,1,1)) (w':=w4.drew.alloc (.cells tI.arr 66)) (by kernel_rfl) ?_;have E:=R.drew.alloc (.cells tI.arr 66);have T:=D.drew.alloc (.cells tI.arr 66);have M:=I.drew.alloc (.cells tI.arr 66);have F:=(fS t).alloc (.cells tI.arr 66);have g7:=(J.trans ((Below.refl B w4).drew)).alloc (show B<=w4.drew.heap.size from by have:=I.lt;show B<=w4.heap.size;omega) (.cells tI.arr 66);have g8:=df (aE.new w4.drew 66 tI.arr) (news:=tI.cells) rfl;refine i.out _ _ (fun _=>⟨T.cell 0,E.range⟩) ?_;clear i K;refine vY rfl rfl (fun K i=>?_);refine du (w4.drew.alloc (.cells tI.arr 66)) _ _ 64 rfl (B+5) 66 i6 (.agg tI.arr) 57 448 Tryz.underlying64 hi6 hy9 hy8 hy7 (by exact Bc.size kW) (by decide) (.slice A1 k c1) k _ rfl F w4.drew.heap.size 1 1 tI.cells rfl rfl g8 (Bc.pV kW) (by unfold maxLen;omega) (by omega) (by have:=M.lt;omega) ?_;intro v5 w5 U G ii;have m:=T.grown F G (by decide);have N:=M.grown F G (by decide);have io:aE w5 gx 66 q.arr:=(G.block gx E.lt (fun e=>Do gx e.symm rfl)).trans E;have O:=g7.trans ((eo F G (by have:=M.lt;omega)).mono (by omega));obtain⟨V,cq,rfl,hgq,hcq,hql⟩:=dL U (by omega);obtain⟨W,pm,P,-,-,d⟩:=Sv U (Bc.len kW.sty);replace d:=aU d;have X:V≠gx:=fun e=>by rcases ii with h|⟨g2,h,h2⟩;exact Do V (by rw[<-h];rfl) e;cases h;rw[e]at h2;exact absurd E.lt (Nat.not_lt.2 h2)
    refine i.out _ _ (fun _=>⟨m.cell 0,io.range⟩) ?_;clear i K;refine aaL rfl rfl rfl rfl (fun K i=>?_) (fun K i=>?_)
    .have hkk:(k:Int)<(k:Int)+1:=by omega
     go_simp
     refine i.out _ _ (fun h=>by simp at h) ?_;clear i K;refine aaL rfl rfl rfl rfl (fun K i=>?_) (fun K i=>?_)
     .refine fH 66 _ _ rfl V (k*57) q.arr rfl rfl 66 ak tI.cells W P pm (by rw[Bc.size a];exact Bc.len kW.sty) (bS a) (Bc.all a) ?_;intro w6 u j;have r:=m.dA j (by omega);have x:=N.dA j (by omega);have y:=O.trans (j.below (by omega));refine i.out _ _ (fun h=>by simp at h) ?_;clear i K;refine vY rfl rfl (fun K i=>?_);have q1:=r.cell 0;have q2:=r.free 0;go_simp
      refine i.out _ _ (fun h=>by simp at h) ?_;clear i K;refine Su (a7 ?_);have l:=fp.setCell w6 (B+1+1+1,0) (V,k+1,cq);have Y:=r.put 0 (V,k+1,cq);have am:=x.dA l (by simp);have a5:=y.trans (l.below (show B<=_ by simp;omega));have a9:=aZ (d.out w6 q.cells (Bc.len a.sty) u) (fun g hg _=>l.other g (by cases hg;simp;omega));clear l u j r x y;clear m N io O P d X E T M F g7 g8 U G ii R D t J I;go_wp2_with fail
      go_roundw
      case rel=>exact⟨k+1,_,by omega,by go_num,Y,am,a5,by rw[bJ,HQ.out,List.flatMap_append,L.out];simpa using a9,fun h=>by omega⟩
      case measure=>simp[intOf];omega
     .have q1:w5.cell? (B+1+1+1,0)=some (.slice A1 k c1):=m.cell 0;have q2:=m.free 0;go_simp
      refine i.out _ _ (fun h=>by simp at h) ?_;clear i K;refine vY rfl rfl (fun K i=>?_);have l:=fp.setCell w5 (B+1+1+1,0) (V,k+1,cq);have r:=m.put 0 (V,k+1,cq);have x:=N.dA l (by simp);have y:=O.trans (l.below (show B<=_ by simp;omega));have z:=P.dA l (by simp;omega);refine fH 66 _ _ rfl V (k*57) q.arr rfl rfl 66 ak tI.cells W z pm (by rw[Bc.size a];exact Bc.len kW.sty) (bS a) (Bc.all a) ?_;intro w6 u j;refine i.out _ _ (fun h=>by simp at h) ?_;clear i K;refine Su (a7 ?_);have Y:=r.dA j (by omega);have am:=x.dA j (by omega);have a5:=y.trans (j.below (by omega));have a9:=d.out w6 q.cells (Bc.len a.sty) u;clear l u j r x y z;clear m N io O P d X E T M F g7 g8 U G ii R D t J I;go_wp2_with fail
      go_roundw
      case rel=>exact⟨k+1,_,by omega,by go_num,Y,am,a5,by rw[bJ,HQ.out,List.flatMap_append,L.out];simpa using a9,fun h=>by omega⟩
      case measure=>simp[intOf];omega
    .have q1:w5.cell? (B+1+1+1,0)=some (.slice A1 k c1):=m.cell 0;have q2:=m.free 0;go_simp
     refine i.out _ _ (fun h=>by simp at h) ?_;clear i K;refine vY rfl rfl (fun K i=>?_);have hkk:(k:Int)<(k:Int)+1:=by omega
     go_simp
     refine i.out _ _ (fun h=>by simp at h) ?_;clear i K;refine vY rfl rfl (fun K i=>?_);have l:=fp.setCell w5 (B+1+1+1,0) (V,k+1,cq);have r:=m.put 0 (V,k+1,cq);have x:=N.dA l (by simp);have y:=O.trans (l.below (show B<=_ by simp;omega));have z:=P.dA l (by simp;omega);refine fH 66 _ _ rfl V (k*57) q.arr rfl rfl 66 ak tI.cells W z pm (by rw[Bc.size a];exact Bc.len kW.sty) (bS a) (Bc.all a) ?_;intro w6 u j;refine i.out _ _ (fun h=>by simp at h) ?_;clear i K;refine Su (a7 ?_);have Y:=r.dA j (by omega);have am:=x.dA j (by omega);have a5:=y.trans (j.below (by omega));have a9:=d.out w6 q.cells (Bc.len a.sty) u;clear l u j r x y z;clear m N io O P d X E T M F g7 g8 U G ii R D t J I;go_wp2_with fail
     go_roundw
     case rel=>exact⟨k+1,_,by omega,by go_num,Y,am,a5,by rw[bJ,HQ.out,List.flatMap_append,L.out];simpa using a9,fun h=>by omega⟩
     case measure=>simp[intOf];omega
   .have hkl:k=C.length:=by omega
    have e1:=decide_eq_false (by omega);obtain⟨A1,c1,rfl,-⟩:=aV ho;go_upto_region 12 with(go_at_call 190;go_loud (refine(Ij wr o).mono ?_;rintro e w4 ⟨rfl,p,I⟩))
    have D:=hO.dA p (by omega);have t:=aZ ho (fun g hg _=>p.other g (by have:=(ho.lt g hg).1;omega));have J:=hB.trans (p.below (by omega));have cO:=D.cell 0;clear p hO o hB ho;go_wp2_with fail
    go_ret
    subst hkl;rw[bL]at t;rw[<-em.out];exact⟨_,rfl,J,eW t (by omega),fun h=>jp.out (by rw[h];rfl)⟩
