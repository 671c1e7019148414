/- part of topCells.proved -/
import Derived.Test.YtkkiefcapbddkaaGreatDoorWe
set_option linter.all false
set_option maxRecDepth 1000000
set_option maxHeartbeats 0
noncomputable section
namespace Go.Abs
open Go.RowKit Go.Proofs YtkkiefcapbddkaaGreatDoor Mem ep
def yg{d c bk ab hv X kk:Int}{t:Bool}(hc:(ab=0/\hv=0/\X=0/\t=false)\/(ab=1/\hv=0/\X=1/\t=true)\/(ab=3/\hv=1/\X=1/\t=false)\/(ab=4/\hv=1/\X=1/\t=false))(hd:d=1\/d=4\/d=5\/d=6)(Y:bk=1\/bk=3\/bk=4\/bk=5)(ht:(bk==3)=t)
 (am:∀w3,Calls tp 50 #[.agg (db (bh d c)),ab] w3 (fun e E=>e=bk/\Below w3 w3 E))
 (w:World){B gt gl gm:Nat}{L:List Nd}{SL:List (List D)}(hE:zU w B gt gl gm L SL)(hBw:B<=w.heap.size)(hLl:L.length<=4000){n:Nat}{x:Nd}(hx:L[n]? =some x)(hxk:x.kind=1)(ge:(x.name.toList==[98,114])=false)(hs:SL[n]? =some (bh d c))(ix:Int)(dd:Nat)(F:List Nat)(K:List Bt)(hch:XU L x.fst F)(qr:K.length=F.length)(hkn:F.length<=100)(hkl:F.length<L.length)
 (hkd:∀t∈K,t.kind=kk)
 (M:∀t∈K,∃a b,t.sty=bh a b)
 (hft:∀(w:World) (A:Option Addr) (c:Nat) (v:List Bc),(∀q∈v,q.Ok)->(∀q∈v,q.kind=kk)->v.length=K.length->∀b:Bc,b.Ok->b.kind=bk->b.kv=.slice A v.length c->dU w w A 57 Bc.cells v->Calls tp 52 #[.agg b.arr] w fun e E=>∃A' c',e=.returned (.agg ({b with kv:=.slice A' v.length c'}:Bc).arr)/\Below w w E/\(E.ownsRow w 66 57 (.slice A' v.length c') v.length (v.flatMap Bc.cells)/\(v=[]->Value.slice A' v.length c'=zn)\/A'=A/\c'=c/\(∀t∈K,t.kids=[])/\K.length=1))
 (
  O:∀(i k:Nat) (t:Bt),F[i]? =some k->K[i]? =some t->∀E,zU E B gt gl gm L SL->B<=E.heap.size->Calls tp 49 #[k,bk,X,pt gt,pt gl,pt gm] E
  fun e w''=>∃q,e=tQ #[.agg q.arr,true]/\Below E E w''/\gM w'' false dd E w''.heap.size q t):
 Calls tp 49 #[n,ab,hv,pt gt,pt gl,pt gm] w
  fun e E=>∃q,e=tQ #[.agg q.arr,true]/\Below w w E/\gM E false (dd+1) w E q (.mk bk n ix (bh d c) eQ K):=by
 have z1:(d==2)=false:=by rcases hd with rfl|rfl|rfl|rfl<;>rfl
 have z2:(bk==2)=false:=by rcases Y with rfl|rfl|rfl|rfl<;>rfl
 have z3:(bk==3)=t:=ht;have z4:(bk==6)=false:=by rcases Y with rfl|rfl|rfl|rfl<;>rfl
 replace hft:=aU hft;replace hd:=aU hd;replace Y:=aU Y;clear ht;rcases hc with⟨rfl,rfl,rfl,rfl⟩|⟨rfl,rfl,rfl,rfl⟩|⟨rfl,rfl,rfl,rfl⟩|⟨rfl,rfl,rfl,rfl⟩;all_goals
  obtain⟨i6,hi6,hy9,hy8,hy7⟩:=info_parts CB;replace O:=aU O;replace hkd:=aU hkd;replace am:=aU am;replace ge:=aU ge;replace M:=aU M;have hchx:=aU hch;have hE0:=hE;obtain⟨⟨At,ct,ht1,ht2⟩,⟨As,cs,hl1,hl2⟩,hm1,hgt,hgl,hgm⟩:=hE0;obtain⟨bt,ot,rfl,hbt,hrt⟩:=nu ht2 hx;obtain⟨bs,os,rfl,hbs,hrs⟩:=tv hl2 hs;have hnl:=(List.getElem?_eq_some_iff.1 hx).1;have hns:=(List.getElem?_eq_some_iff.1 hs).1;have d1:=lJ n L.length (by omega);have d2:=lJ n SL.length (by omega);have p1:(Tryz.prog.info? 63).map (·.size)=some (db (bh d c)).size:=dG (bu d c);go_enter Tryz.func49,Tryz.ntmps49
  go_upto_region 1 with fail
  refine bM (fun Z=>aE Z w 66 tI.arr/\Below w w Z) ⟨aE.new _ _ _,(Below.refl _ _).alloc (ae _) _⟩ ?_;rintro w1 ⟨rg,g7⟩;obtain⟨W,un⟩:=iG w.heap.size;rw[<-un]at rg g7 hBw|-;replace un:=aU un;have hW1:=rg.lt;have e1:w1.cell? gt=(bt,ot,L.length,ct):=(g7.cell (p:=gt) (by simp;omega)).trans ht1;have r1:w1.rangeAt bt (ot+n*9) x.arr.toList:=fun j u hu=>(g7.cell (p:=(bt,ot+n*9+j)) (by simp;omega)).trans (hrt j u hu);replace hrt:=aU hrt;go_wp2_with (refine aX 121 rfl ?_)
  refine⟨bY rfl 121 _ rfl bt (ot+n*9) rfl x.arr _ r1 Tryz.underlying121 rfl (uI x) ?_⟩;(try simp only[Act.put,zA,zB,zC]);go_wp2_with (refine aX 121 rfl ?_)
  refine⟨dK x.arr rfl rfl rfl rfl (aE.new _ _ _) rfl (uI x) (zV x) ?_⟩;intro w2 ut wl;(try simp only[Act.put,zA,zB,zC]);have wn:=(g7.alloc (Nat.le_of_lt hW1) _).trans (wl.below (Nat.le_of_lt hW1));have hR2:=(rg.alloc _).dA wl (by omega);obtain⟨gx,hgx⟩:∃g,g=w1.heap.size:=⟨_,rfl⟩;rw[<-hgx]at ut wl hW1|-;replace hgx:=aU hgx;clear wl e1 r1 rg g7;have hXl:=ut.lt;have hl2':w2.cell? gl=(bs,os,SL.length,cs):=(wn.cell (p:=gl) (by simp;omega)).trans hl1;have r2:w2.rangeAt bs (os+n*52) (db (bh d c)).toList:=fun j u hu=>(wn.cell (p:=(bs,os+n*52+j)) (by simp;omega)).trans (hrs j u (by simpa[db]using hu));replace hrs:=aU hrs;go_wp2_with (first|refine dg 63 _ rfl rfl ?_|refine dm 66 _ _ rfl rfl ?_)
  refine⟨bY rfl 63 _ rfl bs (os+n*52) rfl (db (bh d c)) _ r2 Tryz.underlying63 rfl p1 ?_⟩;(try simp only[Act.put,zA,zB,zC]);refine iK rfl (.agg (⟨0,(n:Int),0,bh d c,eQ,zn⟩:Bc).arr) w2 (by kernel_rfl) ?_;(try simp only[Act.put,zA,zB,zC]);obtain⟨b,hb⟩:=iG (⟨0,(n:Int),0,bh d c,eQ,zn⟩:Bc);rw[<-hb];have G:b.Ok:=by rw[hb];exact⟨bu d c,rfl⟩
  replace hb:=aU hb;go_wp2_with (first|refine dg 63 _ rfl rfl ?_|refine dm 66 _ _ rfl rfl ?_)
  refine⟨dK b.arr rfl rfl rfl rfl (aE.new _ _ _) (by rw[Bc.size G];rfl) (bS G) (Bc.all G) ?_⟩;intro w3 H g8;(try simp only[Act.put,zA,zB,zC]);have hB3:=(wn.alloc (by omega) _).trans (g8.below (by omega));have hR3:=(hR2.alloc _).dA g8 (by omega);have ww:=(ut.alloc _).dA g8 (by omega);obtain⟨l,hgb⟩:∃g,g=w2.heap.size:=⟨_,rfl⟩;rw[<-hgb]at H g8 hXl|-;replace hgb:=aU hgb;clear g8 wn hR2 ut r2 hl2';have hNl:=H.lt;have e3:w3.cell? gx=zJ:=by rw[ww.cell 0];show some (Value.int .i64 x.kind)=_;rw[hxk]
  have e4:w3.cell? (gx,1)=x.name:=ww.cell 1;have s0:w3.cell? (l,3)=d:=by rw[H.cell 3,hb.out];rfl
  have s1:w3.cell? (l,4)=zQ:=by rw[H.cell 4,hb.out];rfl
  have s2:w3.cell? (l,5)=zQ:=by rw[H.cell 5,hb.out];rfl
  have rs:w3.rangeAt l 3 (db (bh d c)).toList:=fun j u hu=>by
   rw[H.cell (3+j),hb.out];have hj:(List.map dV (bh d c))[j]? =some u:=by simpa[db]using hu
   rw[ai,dH]at hj;obtain⟨dd',h1,rfl⟩:=hj;exact Bc.ES (b:=⟨0,(n:Int),0,bh d c,eQ,zn⟩) (bu _ _) h1
  replace ge:=ge.out;replace am:=am.out;generalize db (bh d c)=sA at*;go_upto_region 16 with fail
  go_wp2_with (first|refine dg 63 _ rfl rfl ?_|refine dm 66 _ _ rfl rfl ?_)
  refine⟨bY rfl 63 _ rfl l 3 rfl sA _ rs Tryz.underlying63 rfl p1 ?_⟩;(try simp only[Act.put,zA,zB,zC]);replace rs:=trivial;go_upto_region 17 with(go_at_call 50;go_loud (refine(am w3).mono ?_;rintro e J ⟨rfl,o⟩;have ii:=H.below o hNl;have q1:J.cell? l=zQ:=(ii.cell 0).trans (by rw[hb.out];first|done|rfl);have q2:=ii.free 0))
  have hX4:=ww.below o (by omega);have hR4:=hR3.below o (by omega);have hB4:=hB3.trans (o.mono (by omega));have r:=fp.setCell J l bk;have z:aE (J.setCell l bk) l 66 ({b with kind:=bk}:Bc).arr:=ii.put 0 bk;have io:=hR4.dA r (by simp;omega);have a5:=hB4.trans (r.below (show W<=l by omega));have hs5:(J.setCell l bk).heap.size=J.heap.size:=r.size;have hNl4:=ii.lt;generalize J.setCell l bk=C at*;clear r ii hR4 hB4 hX4 o hB3 hR3 ww H q1 q2 e3 e4 s0 s1 s2 am ge;have ip:=z.lt;clear hs5 hNl4 J;have s0:C.cell? l=bk:=(z.cell 0).trans rfl;have s1:C.cell? (l,4)=zQ:=(z.cell 4).trans (by rw[hb.out];first|done|rfl);have e1:C.cell? gt=(bt,ot,L.length,ct):=(a5.cell (p:=gt) (by simp;omega)).trans ht1;have hT5:dU C C (bt,ot) 9 Nd.cells L:=fun h=>by obtain⟨b1,o1,z1,z2,z3⟩:=(ht2.below (a5.mono hBw)) h;exact⟨b1,o1,z1,by omega,z3⟩
  go_upto_region 21 with fail
  go_upto_region 22 with(go_at_call 51;go_loud (refine(Pb L (bt,ot) ct C hT5 hx hLl F hchx.out hkl).mono ?_;rintro e w6 ⟨N,rfl,i8,P⟩;obtain⟨Ak,ck,rfl,-⟩:=aV P))
  have Q:=z.below i8 ip;have Do:=io.below i8 (by omega);have H1:=a5.trans (i8.mono (by omega));have In:=eW P (show l+1<=C.heap.size by omega);have UV:∀g,(Value.slice Ak F.length ck).ownBlock=some g->g<w6.heap.size:=fun g f=>(P.lt g f).2;have hsz6:=i8.size;clear z io a5 i8 P s0 s1 e1 hT5;obtain⟨S,hS⟩:=iG w6.heap.size;rw[<-hS]at UV hsz6;have hgS:l<S:=by omega
  clear hsz6 ip;have hS6:S<=w6.heap.size:=by omega
  replace hS:=aU hS;replace UV:=aU UV;replace qr:=aU qr;have Y:({b with kind:=bk}:Bc).kv=zn:=by rw[hb.out]
  have hN6':aE w6 l 66 ({b with kind:=bk,kv:=zn}:Bc).arr:=by rw[hb.out]at Q|-;exact Q
  clear Q Y;go_wp2_with fail
  go_loopw [125] (fun s wr=>∃(i:Nat) (N:Value) (v:List Bc) (m:Nat),i<=F.length/\s=i/\aE wr W 66 tI.arr/\aE wr l 66 ({b with kind:=bk,kv:=N}:Bc).arr/\Below W w wr/\wr.ownsRow (l+1) 3 1 (.slice Ak F.length ck) F.length (F.map Wh)/\S<=wr.heap.size/\wr.ownsRow S 66 57 N i (v.flatMap Bc.cells)/\v.length=i/\ey (fun a m q x=>gM wr false dd a m q x/\S<=a/\∀g,N.ownBlock=some g->g<a\/m<=g) S m v (K.take i)/\m<=wr.heap.size/\∀q∈v,q.Ok) (fun s _=>F.length-(intOf s).toNat)
  case atStart=>exact⟨0,_,[],S,Nat.zero_le _,rfl,Do,hN6',H1,In,hS6,dl _ _ _ _,rfl,Nat.le_refl S,hS6,fun q hq=>by cases hq⟩
  case round=>
   clear Do hN6' H1 In hS6;obtain⟨i,N,v,m,hi,rfl,hR,hN,hB,X,hSw,ho,jp,hA,hm,lw⟩:=hrel;obtain⟨A1,c1,rfl,-⟩:=aV ho;replace jp:=aU jp;replace hA:=aU hA;replace lw:=aU lw;have hNl:=hN.lt;by_cases hlt:i<F.length
   .have hd1:=lJ i F.length (by omega);obtain⟨k,hki⟩:∃k,F[i]? =some k:=⟨_,List.getElem?_eq_getElem hlt⟩;obtain⟨t,hti⟩:∃t,K[i]? =some t:=⟨_,List.getElem?_eq_getElem (by rw[qr.out];exact hlt)⟩;obtain⟨gk,ck',e0,hgk,hck,hgl'⟩:=dL X (by omega);injection e0 with q1 q2 q3;subst q1 q3;have hkc:wr.cell? (gk,i)=k:=by
     have:=X.cells (g:=gk) rfl i (Wh k) (by rw[ai,hki];rfl);have he:(gk:Addr).add i=(gk,i):=by cases i<;>simp[Addr.add]
     rw[he]at this;exact this
    have hE4:=hE.keep (hB.mono hBw);have e5:wr.cell? gm=some (.func (.func 49) #[] #[pt gt,pt gl,pt gm]):=hE4.m;have s0:wr.cell? l=bk:=(hN.cell 0).trans rfl;have hkid:=O.out i k t hki hti wr hE4 (by have:=hR.lt;omega);go_upto_region 24 with fail
    go_wp2_with (first|refine dm 66 _ _ rfl rfl ?_|(go_at_call 49;go_loud (refine hkid.mono ?_;rintro e J ⟨q,rfl,o,mp⟩)))
    refine⟨?_⟩;have R:q.Ok:=mp.ok;refine dK q.arr rfl rfl rfl rfl (aE.new _ _ _) (by rw[Bc.size R];rfl) (bS R) (Bc.all R) ?_;intro C hQ5 r;(try simp only[Act.put,zA,zB,zC]);have hs4:=o.size;have z:=((hN.below o hNl).alloc _).dA r (by omega);have io:=((hR.below o hR.lt).alloc _).dA r (by have:=hR.lt;omega);have a5:=((hB.trans (o.mono (by have:=hR.lt;omega))).alloc (by have:=hR.lt;omega) _).trans (r.below (by have:=hR.lt;omega));have hk5:=aZ ((ca X o).alloc _) (fun g f _=>r.other g (by have:=(X.lt g f).2;omega));have ho5:=aZ ((ca ho o).alloc _) (fun g f _=>r.other g (by have:=(ho.lt g f).2;omega));have hq5:gM C false dd wr J q t:=mp.same (fun g h1 h2=>(r.other g (by omega)).trans (aG _ _ h2));have hkS5:∀g,(Value.slice A1 i c1).ownBlock=some g->g<wr.heap.size:=fun g f=>(ho.lt g f).2;have hs5:=r.size;have hgq:aE C J 66 q.arr:=hQ5;have hBs:wr.heap.size<=J.heap.size:=hs4;have hql5:=hQ5.lt;obtain⟨a1,a2,hab⟩:=M.out t (List.mem_of_getElem? hti);have hqs:q.sty=bh a1 a2:=mp.sty.trans hab;obtain⟨An,nn,cn,n6⟩:=mp.kv;have WF:q=⟨q.kind,q.node,q.ix,bh a1 a2,q.text,.slice An nn cn⟩:=by rw[<-hqs,<-n6]
    replace hqs:=aU hqs;replace WF:=aU WF;replace n6:=aU n6;replace hab:=aU hab;have hsm:∀k,k<wr.heap.size->C.heap[k]? =wr.heap[k]? :=fun k X=>(r.other k (by omega)).trans ((aG _ _ (by omega)).trans (o.block k X));replace hsm:=aU hsm;clear hE4 e5 s0 hkid hkc hd1 o mp;have k56:C.cell? (l,56)=some (.slice A1 i c1):=(z.cell 56).trans (Bc.l7 (b:={b with kind:=bk,kv:=.slice A1 i c1}) G.sty);clear hN hR hB X ho r;go_wp2_with (refine aX 66 rfl ?_)
    refine⟨eu rfl rfl rfl hQ5 Tryz.underlying66 rfl (bS R) ?_⟩;(try simp only[Act.put,zA,zB,zC]);rw[WF.out];refine iK rfl (C.heap.size,1,1) (C.alloc (.cells (⟨q.kind,q.node,q.ix,bh a1 a2,q.text,.slice An nn cn⟩:Bc).arr 66)) (by kernel_rfl) ?_;(try simp only[Act.put,zA,zB,zC]);rw[<-WF.out];have hN5a:=z.alloc (.cells q.arr 66);have hR5a:=io.alloc (.cells q.arr 66);have hB5a:=a5.alloc (show W<=C.heap.size by have:=io.lt;omega) (.cells q.arr 66);have hk5a:=hk5.alloc (.cells q.arr 66);have I:=ho5.alloc (.cells q.arr 66);have hnw:=df (aE.new C 66 q.arr) (news:=q.cells) rfl;have ip:=z.lt;refine bD (C.alloc (.cells q.arr 66)) rfl (.tmp 140) (.tmp 142) 64 rfl S 66 i6 (.agg tI.arr) 57 448 Tryz.underlying64 hi6 hy9 hy8 hy7 (by exact Bc.size kW) (by decide) (.slice A1 i c1) i _ rfl I C 1 1 q.cells rfl (Bc.len R.sty) hnw (Bc.pV R) (by unfold maxLen;omega) (by omega) (by simp;omega) ?_;intro v6 T WP a9 hf6;(try simp only[Act.put,zA,zB,zC]);have hgne:∀g,v6.ownBlock=some g->g≠l/\S<=g:=fun g f=>by have:=(WP.lt g f).1;omega
    have Q:=gg hN5a hN5a.lt a9 (fun e=>by have:=(I.lt _ e.symm).1;omega);have Do:=gg hR5a hR5a.lt a9 (fun e=>by have:=(I.lt _ e.symm).1;omega);have H1:=dw hB5a I a9 (by omega) (by simp;omega);have P:=gO hk5a a9 (.inr (fun e=>by have:=UV.out gk rfl;have:=(I.lt gk e.symm).1;omega));have q1:T.cell? (l,56)=some (.slice A1 i c1):=(aE.cell Q 56).trans (Bc.l7 (b:={b with kind:=bk,kv:=.slice A1 i c1}) G.sty);have q2:=aE.free Q 56;obtain⟨A6,c6,rfl,-⟩:=aV WP;have em:=fp.setCell T (l,56) (.slice A6 (i+1) c6);have hN7:=aE.put Q 56 (.slice A6 (i+1) c6);rw[Bc.zT (b:={b with kind:=bk,kv:=.slice A1 i c1}) G.sty]at hN7;have hR7:=aE.dA Do em (by simp;omega);have hB7:=H1.trans (em.below (show W<=l by omega));have In:=aZ P (w':=T.setCell (l,56) (.slice A6 (i+1) c6)) (fun g f _=>em.other g (by have:=(P.lt g f).1;simp;omega));have ho7:=aZ WP (w':=T.setCell (l,56) (.slice A6 (i+1) c6)) (fun g f _=>em.other g (by have:=(WP.lt g f).1;simp;omega));have hs7:J.heap.size<(T.setCell (l,56) (.slice A6 (i+1) c6)).heap.size:=by rw[em.size];have h2:=a9.size;simp at h2;omega
    have V:∀k,k<J.heap.size->(∀g,(Value.slice A1 i c1).ownBlock=some g->g≠k)->k≠l->(T.setCell (l,56) (.slice A6 (i+1) c6)).heap[k]? =C.heap[k]? :=fun k h1 h2 h3=>
     (em.other k h3).trans ((a9.block k (by simp;omega) (fun e=>h2 k e.symm rfl)).trans (aG _ _ (by omega)))
    replace V:=aU V;have hfr:∀g,(Value.slice A6 (i+1) c6).ownBlock=some g->(Value.slice A1 i c1).ownBlock=some g\/J.heap.size<g:=fun g f=>by
     rcases hf6 with h|⟨g',h,h2⟩
     .exact .inl (h▸f)
     .rw[h]at f;cases f;exact .inr (by simp at h2;omega)
    replace hfr:=aU hfr;have hA7:ey (fun a m q x=>gM (T.setCell (l,56) (.slice A6 (i+1) c6)) false dd a m q x/\S<=a/\∀g,(Value.slice A6 (i+1) c6).ownBlock=some g->g<a\/m<=g) S J (v++[q]) (K.take (i+1)):=by
     rw[bJ,hti];refine ey.snoc (m:=wr.heap.size) ?_ hBs ⟨?_,hSw,?_⟩
     .refine SC hA.out hm (fun k k0 k1 k2=>?_) (fun g f=>?_)
      .exact(V.out k (by omega) k2 (by omega)).trans (hsm.out k k1)
      .rcases hfr.out g f with h|h
       .exact .inl h
       .right;omega
     .exact hq5.same (fun k k1 k2=>V.out k k2 (fun g f e=>by have:=hkS5 g f;omega) (by omega))
     .intro g f;rcases hfr.out g f with h|h
      .exact .inl (hkS5 g h)
      .exact .inr (by omega)
    have hql7:=jp.out;go_wp2_with fail
    go_roundw
    case rel=>
     refine⟨i+1,.slice A6 (i+1) c6,v++[q],J.heap.size,by omega,by go_num,hR7,hN7,hB7,In,by omega,?_,by simp[hql7],hA7,by omega,?_⟩
     .rw[bW];simpa using ho7
     .intro q' hq';rcases aJ.1 hq' with h|h
      .exact lw.out q' h
      .rw[bG.1 h];exact R
    case measure=>simp[intOf];omega
   .have hil:i=F.length:=by omega
    have hd1:=Di i F.length (by omega);have hql2:=jp.out;have eq:=hA.out;have y:=lw.out;clear jp hA lw;have hxl:K.length=i:=by rw[qr.out,hil]
    rw[<-hxl,List.take_length]at eq;have hxq:v.length=K.length:=by rw[hql2,hxl]
    have hkq:∀q∈v,q.kind=kk:=eq.all (fun a m q x hx h3=>h3.1.kind.trans (hkd.out x hx));subst hql2;have hb1:({b with kind:=bk,kv:=.slice A1 v.length c1}:Bc).Ok:=⟨G.sty,rfl⟩;have hfit:=hft.out wr A1 c1 v y hkq hxq ({b with kind:=bk,kv:=.slice A1 v.length c1}:Bc) hb1 rfl rfl (SB y ho);have hsW:W<wr.heap.size:=hR.lt;have hxq':=aU hxq;replace eq:=aU eq;replace y:=aU y;clear hkq hxl hxq;replace hil:=aU hil;go_wp2_with (refine aX 66 rfl ?_)
    refine⟨eu rfl rfl rfl hN Tryz.underlying66 rfl (bS hb1) ?_⟩;(try simp only[Act.put,zA,zB,zC]);go_wp2_with (first|(go_at_call 52;go_loud (refine hfit.mono ?_;rintro e w8 ⟨Av,cv,rfl,hb8,U⟩;replace U:=aU U;clear hfit))|refine dm 66 _ _ rfl rfl ?_)
    refine⟨?_⟩;have hR8:=hR.below hb8 hR.lt;have hB8:=hB.trans (hb8.mono (by omega));have pm:({b with kind:=bk,kv:=.slice Av v.length cv}:Bc).Ok:=⟨G.sty,rfl⟩;refine dK ({b with kind:=bk,kv:=.slice Av v.length cv}:Bc).arr rfl rfl rfl rfl hR8 (by rw[Bc.size pm,Bc.size kW]) (bS pm) (Bc.all pm) ?_;intro w9 hZ9 hC9;(try simp only[Act.put,zA,zB,zC]);go_wp2_with fail
    refine ej (o6 9 66 W 10 rfl rfl hZ9 _ Tryz.underlying66 rfl (bS pm) _ rfl) rfl ?_;have hB9:=hB8.trans (hC9.below (Nat.le_refl _));have hs9:w8.heap.size<=w9.heap.size:=by rw[hC9.size];exact ae _
    have hs8:=hb8.size;have hoth:∀k,W<k->k<wr.heap.size->w9.heap[k]? =wr.heap[k]? :=fun k h1 h2=>(hC9.other k (by omega)).trans (hb8.block k h2);have hb':=hb.out;subst hb';have hS9:W<=S:=by omega
    rw[<-un.out];refine⟨_,rfl,hB9,rfl,rfl,rfl,rfl,rfl,pm,v,?_⟩;rcases U.out with⟨U,hv8⟩|⟨rfl,rfl,hlf,hkx1⟩
    .refine⟨m,?_,by omega,eW (aZ U (fun g f _=>hC9.other g (by have:=(U.lt g f).1;omega))) hm,fun g f=>by have:=(U.lt g f).2;omega,y.out,fun hx=>hv8 (List.eq_nil_of_length_eq_zero (by rw[hxq'.out,show K=[]from hx];rfl))⟩;refine ey.down ?_ hS9;exact eq.out.imp (fun a m' q x h0 h1 h3=>h3.1.same (fun k k1 k2=>hoth k (by omega) (by omega)))
    .refine⟨S,?_,by omega,aZ ho (fun g f _=>hoth g (by have:=(ho.lt g f).1;omega) (ho.lt g f).2),fun g f=>by have:=(ho.lt g f).2;omega,y.out,fun hx=>by rw[show K=[]from hx]at hkx1;cases hkx1⟩;refine ey.down ?_ hS9;exact eq.out.flat S (fun a m' q x hx h3=>h3.1.leaf (hlf x hx) w9 S)
