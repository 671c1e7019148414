/- part of topCells.proved -/
import Derived.Test.YtkkiefcapbddkaaGreatDoorKb
set_option linter.all false
set_option maxRecDepth 1000000
set_option maxHeartbeats 0
noncomputable section
namespace Go.Proofs.YtkkiefcapbddkaaGreatDoor
open Go.RowKit Mem ep Num
variable{a:Int}{n:Nat}{e:TypeId}{w:World}
namespace ep
def zu{p t:Int}{q:List Int}:∀{b:List Int},nZ p b=t::q->t=p
 |[],h=>by cases h
 |a::b,h=>by
  unfold nZ at h;split at h
  .next e=>cases h;exact e
  .exact zu h
def zx{p:Int}{r:List Int}:nZ p (a::r)=if a=p then a::r else nZ p r:=by rw[nZ]
def OT{L:List Nd}{x:Nd}{r:List Nd}{b a S:List Int}(h:nb L 0 (x::r) b a=some S):nb L 1 r (0::b) (a.set 0 (-1))=some S:=by
 simpa[nb,Cg]using h
def OU{L:List Nd}{x:Nd}{r:List Nd}{d a S:List Int}(g:n≠0)(h:nb L n (x::r) d a=some S):
 ∃q,nZ x.par d=x.par::q/\x.prv=(a.set n (-1)).getD x.par.toNat 0/\(x.prv= -1->(L.getD x.par.toNat lp).fst=n)/\(x.prv≠-1->(L.getD x.prv.toNat lp).nxt=n)/\
  nb L (n+1) r (if x.kind=1 then(n:Int)::x.par::q else x.par::q) ((a.set n (-1)).set x.par.toNat n)=some S:=by
 unfold nb at h;split at h
 .cases h
 .next s b=>
  unfold Cg at b;rw[aI g]at b;split at b
  .cases b
  .next t q f=>
   have i:=zu f;subst i;split at b
   .cases b
   .next j=>
    split at b
    .cases b
    .next k=>
     split at b
     .cases b
     .next l=>
      cases b;refine⟨q,f,by simpa using j,fun e=>?_,fun e=>?_,h⟩
      .by_cases c:(L.getD x.par.toNat lp).fst=n
       .exact c
       .exact absurd ⟨e,c⟩ k
      .by_cases c:(L.getD x.prv.toNat lp).nxt=n
       .exact c
       .exact absurd ⟨e,c⟩ l
def jT{B:Nat}{A:Option Addr}{l:List Nd}(h:dU w B A 9 Nd.cells l){k:Nat}(c:k<l.length):
 ∃b a x,A=some ⟨b,a,none⟩/\b<B/\Hid (l[k]? =some x)/\w.rangeAt b (a+k*9) x.arr.toList:=by
 obtain⟨b,a,e,f,g⟩:=h (by rintro rfl;simp at c);have d:l[k]? =some l[k]:=List.getElem?_eq_getElem c;exact⟨b,a,l[k],e,f,aU d,fun j v i=>g k _ d j v i⟩
end ep
def HI:(Tryz.prog.info? 3).map (fun i=>(i.zero,i.size,i.bytes))=some (some (.int .i64 0),1,8):=by kernel_rfl
def Co(n:Nat)(h:n<=35184372088832)(w:World):
 (Instr.makeSlice 22 n n).run tp w=.ok (w.heap.size,n,n) (w.alloc (.cells (ints (List.replicate n 0)) 3)):=by
 obtain⟨i,b,c,d,e⟩:=info_parts HI;have a:=run_make (P:=Tryz.prog) w 22 3 i (.int .i64 0) fD b c .i64 .i64 (n:Int) (n:Int) (by omega) (by omega) (by rw[e];omega) (by omega);rw[d]at a;simp only[cJ]at a;rw[a,zp]
def kw(x:Nd):(Tryz.prog.info? 121).map (·.size)=some x.arr.size:=by
 show _=some 9;kernel_rfl
def VW{a c:Nat}{A:Option Addr}{d:List Value}(h:w.ownsRow a e 1 (.slice A (n+1) c) (n+1) d):w.ownsRow a e 1 (.slice A n c) n (d.take n):=by
 have i:=h.1;refine⟨by rw[aN,i];omega,?_⟩;rcases h.2 with⟨f,r⟩|⟨g,cap,b,f,j,k,s,l,m,o⟩
 .omega
 .injection f with p t q;subst p q;refine .inr ⟨g,c,b,rfl,j,k,by omega,l,m,?_⟩;rw[<-o,List.take_take]
  congr 1
  omega
def dL{a sz:Nat}{v:Value}{d:List Value}(h:w.ownsRow a e sz v n d)(j:0<n):∃g cap,v=.slice (some ⟨g,0,none⟩) n cap/\a<=g/\n<=cap/\g<w.heap.size:=by
 rcases h.2 with⟨rfl,k⟩|⟨g,cap,b,rfl,f,i,c,_⟩
 .omega
 .exact⟨g,cap,rfl,f,c,aE.lt (t:=e) (cs:=b) i⟩
def VX{b g cap:Nat}{c:List Int}(h:w.ownsRow b e 1 (g,c.length+1,cap) (c.length+1) ((a::c).reverse.map (Value.int .i64))):w.cell? (g,c.length)=a:=by
 have:=h.cells (g:=g) rfl c.length a (by simp);rwa[Addr.add_mid,bc]at this
def R2{c g cap:Nat}{b:List Int}(h:w.ownsRow c e 1 (g,b.length+1,cap) (b.length+1) ((a::b).reverse.map (Value.int .i64))):
 w.ownsRow c e 1 (g,b.length,cap) b.length (b.reverse.map (Value.int .i64)):=by
 have:=VW h;have e:((a::b).reverse.map (Value.int .i64)).take b.length=b.reverse.map (Value.int .i64):=by
  rw[adl,b9,xq (by simp)]
 rwa[e]at this
def KD(L:List Nd)(m:List Int)(A:Option Addr)(c:Nat)(w:World)(hb:uo L m)(hA:dU w w A 9 Nd.cells L):
 Calls tp 45 #[.agg #[.slice A L.length c]] w fun e w'=>e=true/\Below w w w':=by
 have HLEN:=aU hb.len;have hpos:=hb.pos;have hlen:=hb.len;obtain⟨u,d,x0,rfl,hb0,HX0,hrg0⟩:=jT hA hpos;have z:aE (w.alloc (.cells #[(u,d,L.length,c)] 48)) w 48 #[(u,d,L.length,c)]:=aE.new _ _ _;have E:Below w w (w.alloc (.cells #[(u,d,L.length,c)] 48)):=(Below.refl _ _).alloc (ae _) _;go_enter Tryz.func45,Tryz.ntmps45
 go_upto_region 1 with fail
 refine bM (fun Z=>aE Z w 48 #[(u,d,L.length,c)]/\Below w w Z) ⟨z,E⟩ ?_;clear z E;rintro w1 ⟨z,E⟩;have c0:w1.cell? w.heap.size=(u,d,L.length,c):=z.cell 0;have hrg1:w1.rangeAt u d x0.arr.toList:=by
  have h:=hrg0;rw[ez,dI]at h;exact fun j v hv=>(E.cell (p:=(u,d+j)) hb0).trans (h j v hv)
 have hsz1:=E.size;have hT1:=z.lt;go_wp2_with (refine aX 121 rfl ?_)
 refine⟨bY rfl 121 _ rfl u d rfl x0.arr _ hrg1 Tryz.underlying121 rfl (kw _) ?_⟩;simp only[Act.put,zA,zB,zC];go_wp2_with (refine aX 121 rfl ?_)
 refine⟨dK x0.arr rfl rfl rfl rfl (aE.new _ _ _) rfl (kw _) (qJ _) ?_⟩;intro Y hX hC;simp only[Act.put,zA,zB,zC];have hB2:Below w w Y:=(E.trans ((Below.refl _ _).alloc (by omega) _)).trans (hC.below (by omega));have hT2:aE Y w 48 #[(u,d,L.length,c)]:=(z.alloc _).dA hC (by omega);obtain⟨xr,q0,q1,q2,q3,q4⟩:=hb.root;have hx0:x0=xr:=by have:=HX0.out;rw[q0]at this;cases this;rfl
 subst hx0;have d0:Y.cell? w1.heap.size=zJ:=by have:=hX.cell 0;rw[this];show some (Value.int .i64 x0.kind)=_;rw[q1]
 have d4:Y.cell? (w1.heap.size,4)=zm:=by have:=hX.cell 4;rw[this];show some (Value.int .i64 x0.par)=_;rw[q2]
 have d7:Y.cell? (w1.heap.size,7)=zm:=by have:=hX.cell 7;rw[this];show some (Value.int .i64 x0.prv)=_;rw[q3]
 have d8:Y.cell? (w1.heap.size,8)=zm:=by have:=hX.cell 8;rw[this];show some (Value.int .i64 x0.nxt)=_;rw[q4]
 have c2:Y.cell? w.heap.size=(u,d,L.length,c):=hT2.cell 0;have hlt1:w1.heap.size<Y.heap.size:=hX.lt;have hlt0:=hT2.lt;clear hX hC z E c0 hrg1;generalize hg1:w1.heap.size=g1 at*;generalize hg0:w.heap.size=B at*;replace hg0:=aU hg0;replace hg1:=aU hg1;have hmk:=Co L.length (by omega);go_upto_region 5 with fail
 have P:(Y.alloc (.cells #[] 3)).ownsRow B 3 1 (Y.heap.size,0,0) 0 []:=Ez Y 3 #[] (by omega) (by decide);refine bM (fun Z=>aE Z B 48 #[(u,d,L.length,c)]/\Below B w Z/\Z.ownsRow B 3 1 (Y.heap.size,0,0) 0 []/\Y.heap.size<Z.heap.size) ⟨hT2.alloc _,hB2.alloc (by omega) _,P,by simp⟩ ?_;clear P hT2 hB2 d0 d4 d7 d8 c2;rintro w3 ⟨z,E,P,hlt3⟩;have hm:=hmk w3;have c3:w3.cell? B=(u,d,L.length,c):=z.cell 0;have hlt4:=z.lt;go_upto_region 6 with fail
 have hl:aE (w3.alloc (.cells (ints (List.replicate L.length 0)) 3)) w3 3 (ints (List.replicate L.length 0)):=aE.new _ _ _;have ho2:=P.alloc (.cells (ints (List.replicate L.length 0)) 3);have f:∀g,(Value.slice Y 0 0).ownBlock=some g->g≠w3.heap.size:=fun g J=>by
  simp only[Value.ownBlock,aK]at J;omega
 have hz3:B<=w3.heap.size:=by omega
 have HRUN:=aU hb.run;replace z:=z.alloc (.cells (ints (List.replicate L.length 0)) 3);replace E:=E.alloc hz3 (.cells (ints (List.replicate L.length 0)) 3);generalize hgl:w3.heap.size=l at*;generalize hgo:Y.heap.size=go at*;generalize w3.alloc (.cells (ints (List.replicate L.length 0)) 3)=w4 at*;have hblt:B<l:=by omega
 clear hm c3 P hlt3 hlt4 hlt0 hlt1 hmk hsz1 hT1 hgl hgo HX0 hrg0;have c4:w4.cell? B=(u,d,L.length,c):=z.cell 0;go_wp2_with fail
 go_loopg [4,40] L.length (fun g v s40 wr=>∃(k:Nat) (st la:List Int),g=L.length-k/\k<=L.length/\s40=k/\Hid (nb L k (L.drop k) st la=some m)/\Hid (la.length=L.length)/\st.length<=k/\wr.ownsRow B 3 1 v st.length (st.reverse.map (Value.int .i64))/\(∀g,v.ownBlock=some g->g≠l)/\aE wr l 3 (ints la)/\aE wr B 48 #[(u,d,L.length,c)]/\Below B w wr)
 case atStart=>exact⟨0,[],_,rfl,Nat.zero_le _,rfl,HRUN,aU (by simp),aM _,ho2,f,hl,z,E⟩
 case round=>
  clear HRUN ho2 f hl z E c4;obtain⟨k,st,la,rfl,hk,rfl,HR,N,hst,P,f,hl,z,E⟩:=hrel;have hTl:=z.lt;have lw:=hl.lt;have cT:wr.cell? B=(u,d,L.length,c):=z.cell 0;by_cases C:k<L.length
  .have e1:=lJ k L.length (by omega);obtain⟨b,off,x,hbx,hb2,HX,mp⟩:=jT (hA.below E) C;cases hbx;go_upto_region 8 with fail
   go_wp2_with (refine aX 121 rfl ?_)
   refine⟨bY rfl 121 _ rfl u (d+k*9) rfl x.arr _ mp Tryz.underlying121 rfl (kw _) ?_⟩;simp only[Act.put,zA,zB,zC];go_wp2_with (refine aX 121 rfl ?_)
   refine⟨dK x.arr rfl rfl rfl rfl (aE.new _ _ _) rfl (kw _) (qJ _) ?_⟩;intro w5 hX hC;simp only[Act.put,zA,zB,zC];have ge:Below B w w5:=(E.alloc (by omega) _).trans (hC.below (by omega));have g7:aE w5 B 48 #[(u,d,L.length,c)]:=(z.alloc _).dA hC (by omega);have Q:aE w5 l 3 (ints la):=(hl.alloc _).dA hC (by omega);have ho5:w5.ownsRow B 3 1 _ st.length (st.reverse.map (Value.int .i64)):=aZ (P.alloc _) (fun g J n6=>hC.other g (by have:=(P.lt g J).2;omega));have hXl:=hX.lt;have hgx:l<wr.heap.size:=lw;generalize pm:wr.heap.size=X at*;clear pm hC hl z E P cT mp;have kl:k<la.length:=by rw[N.out];exact C
   obtain⟨y0,cy0,-⟩:=Q.nY kl;have fy0:=Q.free k;go_upto_region 10 with fail
   have hl6:=Q.jK k (-1);have qr:=fp.setCell w5 (l,k) zm;have hB6:=ge.trans (qr.below (by show B<=l;omega));have hT6:=g7.dA qr (show B≠l by omega);have rg:=hX.dA qr (show X≠l by omega);have ho6:=aZ (w':=w5.setCell (l,k) zm) ho5 (fun g J n6=>qr.other g (f g J));clear Q qr ge g7 hX ho5 cy0 fy0;have hXl:=rg.lt;generalize w5.setCell (l,k) zm=w6 at*;go_wp2_with (refine aX 121 rfl ?_)
   refine⟨eu rfl rfl rfl rg Tryz.underlying121 rfl (kw _) ?_⟩;simp only[Act.put,zA,zB,zC];go_upto_region 12 with(go_at_call 91;refine(OS x (hb.lone k x HX.out) w6).mono ?_;rintro e w7 ⟨rfl,g8⟩)
   have hl7:=hl6.below g8 hl6.lt;have ii:=rg.below g8 rg.lt;have hT7:=hT6.below g8 hT6.lt;have ho7:=ca ho6 g8;have hBz6:=hT6.lt;have hB8:Below B w w7:=hB6.trans (g8.mono (by omega));clear hl6 rg hT6 ho6 hB6 g8 hXl kl;have HRC:=aU (show nb L k (x::L.drop (k+1)) st la=some m by rw[<-HR.out,List.drop_eq_getElem_cons C];have:=HX.out;rw[af C]at this;cases this;rfl);have hXl:=ii.lt;have lw:=hl7.lt;have hTl:=hT7.lt;obtain⟨i0,hi,hz0,hz1,hz2⟩:=info_parts HI;have e9:IntKind.i64.wrap ((k:Int)+1)=((k+1:Nat):Int):=by rw[bE _ (by omega)];omega
   by_cases io:k=0
   .have e0:((k:Int)==0)=true:=by simp[io]
    have HR2:=aU (OT (by have h:=HRC.out;rw[io]at h;exact h));have hst0:st=[]:=List.eq_nil_of_length_eq_zero (by omega);subst hst0;go_upto_region 13 with fail
    go_wp2_with (refine cR _ _ _ _ rfl ?_)
    obtain⟨A2,q2,rfl,-⟩:=aV ho7;have R:=ho7.alloc (.cells #[zQ] 3);have K:=hl7.alloc (.cells #[zQ] 3);have am:=hT7.alloc (.cells #[zQ] 3);have hB9:=hB8.alloc (by omega) (.cells #[zQ] 3);have un:=df (aE.new w7 3 #[zQ]) (news:=[zQ]) rfl;refine⟨bD _ rfl (.tmp 53) (.tmp 54) 22 rfl B 3 i0 zQ 1 8 fD hi hz0 hz1 hz2 rfl (by decide) (.slice A2 0 q2) _ _ rfl R w7 1 1 [zQ] rfl rfl un (by simp[Value.oneCell']) (by simp[maxLen]) (by simp) (by simp;omega) ?_⟩;intro v' w9 ho9 hg9 hf9;have hl9:=gg K K.lt hg9 (fun e=>f l e.symm rfl);have hT9:=am.grown R hg9 (by decide);have F:=dw hB9 R hg9 (Nat.le_refl _) (by simp;omega);have hne9:∀g,v'.ownBlock=some g->g≠l:=fun g J=>by
     rcases hf9 with h|⟨g',h1,h2⟩
     .exact f g (h▸J)
     .rw[h1]at J;cases J;simp at h2;omega
    simp only[Act.put,zA,zB,zC];go_wp2_with fail
    go_roundg (L.length-(k+1))
    case measure=>omega
    case rel=>
     refine⟨k+1,[0],_,rfl,C,by rw[io];rfl,?_,?_,by simp,ho9,hne9,hl9,hT9,F⟩
     .rw[io];exact HR2
     .exact aU (by simpa using N.out)
   .have e0:((k:Int)==0)=false:=by simpa using io
    obtain⟨q,HP,em,eq,ut,r⟩:=OU io HRC.out;replace HP:=aU HP;replace em:=aU em;replace eq:=aU eq;replace ut:=aU ut;replace r:=aU r;obtain⟨o,S⟩:∃o:Nat,x.par=(o:Int):=⟨x.par.toNat,by have:=(hb.par k x HX.out (by omega)).1;omega⟩;have hpk:o<k:=by have:=(hb.par k x HX.out (by omega)).2;omega
    have cX4:w7.cell? (X,4)=o:=by have:=ii.cell 4;rw[this];show some (Value.int .i64 x.par)=_;rw[S]
    have cX7:w7.cell? (X,7)=x.prv:=ii.cell 7;have cX0:w7.cell? X=x.kind:=ii.cell 0;rw[S]at HP em eq r;go_upto_region 14 with fail
    go_loopg [4] st.length (fun g s4 wr=>∃t,g=t.length/\Hid (nZ o t=(o:Int)::q)/\t.length<=st.length/\wr.ownsRow B 3 1 s4 t.length (t.reverse.map (Value.int .i64))/\(∀g,s4.ownBlock=some g->g≠l)/\eL w7 wr)
    case atStart=>exact⟨st,rfl,HP,Nat.le_refl _,ho7,f,eL.refl _⟩
    case round=>
     clear ho7 f;obtain⟨t,rfl,HPR,hrl,P,f,hd⟩:=hrel;cases t with
     |nil=>have:=HPR.out;simp[nZ]at this
     |cons a t=>
      simp only[aW]at P hrl;obtain⟨g,cap,rfl,hge,hnc,hgl⟩:=dL P (by omega);have ct:=VX P;have ip:wr.cell? (X,4)=o:=(ii.drawn hd).cell 4|>.trans (by show some (Value.int .i64 x.par)=_;rw[S]);have f1:decide ((0:Int)<((t.length+1:Nat):Int))=true:=bf (by omega);have f2:IntKind.i64.wrap (((t.length+1:Nat):Int)-1)=((t.length:Nat):Int):=by rw[bE _ (by omega)];omega
      have f3:t.length<t.length+1:=Nat.lt_succ_self _;by_cases T:a=(o:Int)
      .have f4:(a !=(o:Int))=false:=by simp[T]
       go_wp2_with fail
       go_quiet (fail)
       have wl:eL w7 (wr.drewN nq):=hd.more nq;have R:=aZ (w':=wr.drewN nq) P (fun g _ _=>rfl);clear hd P ct ip;generalize wr.drewN nq=D at*;have i8:=ii.drawn wl;have K:=hl7.drawn wl;have am:=hT7.drawn wl;have M:Below B w D:=hB8.trans (wl.below _);have HQ:Hid (t=q):=aU (by have:=HPR.out;rw[zx,aS T]at this;exact(gX this).2);have ip:D.cell? (X,4)=o:=by have:=i8.cell 4;rw[this];show some (Value.int .i64 x.par)=_;rw[S]
       have jp:D.cell? (X,7)=x.prv:=i8.cell 7;have pl:o<(la.set k (-1)).length:=by rw[eI,N.out];omega
       have cl:D.cell? (l,o)=x.prv:=by
        rw[K.int pl];have:=em.out;simp only[cJ]at this;rw[<-this]
       have cT8:D.cell? B=(u,d,L.length,c):=am.cell 0;have pL:o<L.length:=by omega
       have f5:(((t.length+1:Nat):Int)==0)=false:=by simp;omega
       have f6:(x.prv !=x.prv)=false:=by simp
       have f8:((k:Int) !=(k:Int))=false:=by simp
       have hAw:=hA.below M;go_wp2_with fail
       go_quiet (fail)
       have wn:eL D (D.drewN nq):=(eL.refl _).more nq;replace i8:=i8.drawn wn;replace K:=K.drawn wn;replace am:=am.drawn wn;replace M:=M.trans (wn.below _);replace hAw:=hA.below M;replace R:=aZ (w':=D.drewN nq) R (fun g _ _=>rfl);replace cl:(D.drewN nq).cell? (l,o)=x.prv:=cl;replace ip:(D.drewN nq).cell? (X,4)=o:=ip;replace jp:(D.drewN nq).cell? (X,7)=x.prv:=jp;replace cT8:(D.drewN nq).cell? B=(u,d,L.length,c):=cT8;clear wl wn;generalize D.drewN nq=D at*;rcases hb.prv k x HX.out with hpv|⟨hpv1,hpv2⟩
       .rw[hpv]at cl jp f6;obtain⟨b',off',y,e',-,HY,hy⟩:=hAw.at_ pL;cases e';have cN:D.cell? (u,d+o*9+5)=k:=by
         rw[hy 5 y.fst rfl];have h1:=eq.out hpv;have h2:=HY.out;simp only[cJ]at h1;rw[ah,h2]at h1;rw[<-h1];rfl
        have fy:=K.free o;go_upto_region 21 with fail
        have G:=K.jK o k;have n:=fp.setCell D (l,o) k;have F:=M.trans (n.below (by show B<=l;omega));have U:=am.dA n (show B≠l by omega);have ww:=i8.dA n (show X≠l by omega);have V:=aZ (w':=D.setCell (l,o) k) R (fun g J n6=>n.other g (f g J));have cx0:(D.setCell (l,o) k).cell? X=x.kind:=ww.cell 0;have hgl10:=G.lt;clear fy n cl ip jp cT8 cN;generalize D.setCell (l,o) k=Do at*;by_cases O:x.kind=1
        .have f10:(x.kind==1)=true:=by simp[O]
         have a5:=aU (show nb L (k+1) (L.drop (k+1)) ((k:Int)::a::t) ((la.set k (-1)).set o k)=some m by have:=r.out;rw[aS O]at this;rw[HQ.out,<-this];simp[S,T]);go_upto_region 22 with fail
         go_wp2_with (refine cR _ _ _ _ rfl ?_)
         have H:=V.alloc (.cells #[k] 3);have W:=G.alloc (.cells #[k] 3);have H1:=U.alloc (.cells #[k] 3);have In:=F.alloc (by omega) (.cells #[k] 3);have un:=df (aE.new Do 3 #[k]) (news:=[k]) rfl;refine⟨bD _ rfl (.tmp 126) (.tmp 128) 22 rfl B 3 i0 zQ 1 8 fD hi hz0 hz1 hz2 rfl (by decide) (g,t.length+1,cap) _ _ rfl H Do 1 1 [k] rfl rfl un (by simp[Value.oneCell']) (by unfold maxLen;omega) (by omega) (by simp;omega) ?_⟩;intro v' w11 UV I WF;have WP:=gg W W.lt I (fun e=>f l e.symm rfl);have hT12:=H1.grown H I (by decide);have hB12:=dw In H I (Nat.le_refl _) (by simp;omega);have a9:∀g,v'.ownBlock=some g->g≠l:=fun g J=>by
          rcases WF with h|⟨g',h1,h2⟩
          .exact f g (h▸J)
          .rw[h1]at J;cases J;simp at h2;omega
         simp only[Act.put,zA,zB,zC];go_wp2_with fail
         go_roundg (L.length-(k+1))
         case measure=>omega
         case rel=>
          refine⟨k+1,(k:Int)::a::t,_,rfl,C,rfl,a5,aU (by simpa using N.out),by simp;omega,?_,a9,WP,hT12,hB12⟩;simpa using UV
        .have f10:(x.kind==1)=false:=by simpa using O
         have a5:=aU (show nb L (k+1) (L.drop (k+1)) (a::t) ((la.set k (-1)).set o k)=some m by have:=r.out;rw[aI O]at this;rw[HQ.out,<-this];simp[S,T]);go_wp2_with fail
         go_roundg (L.length-(k+1))
         case measure=>omega
         case rel=>
          refine⟨k+1,a::t,_,rfl,C,rfl,a5,aU (by simpa using N.out),by simp;omega,?_,f,G,U,F⟩;simpa using V
       .obtain⟨pr,hpr⟩:∃pr:Nat,x.prv=(pr:Int):=⟨x.prv.toNat,by omega⟩;have hne1:x.prv≠-1:=by omega
        have pR:pr<L.length:=by omega
        have f7:((pr:Int)== -1)=false:=by simp
        have f9:((pr:Int) != -1)=true:=by simp
        rw[hpr]at cl jp f6;obtain⟨b',off',y,e',-,HY,hy⟩:=hAw.at_ pR;cases e';have cN:D.cell? (u,d+pr*9+8)=k:=by
         rw[hy 8 y.nxt rfl];have h1:=ut.out hne1;have h2:=HY.out;rw[hpr]at h1;simp only[cJ]at h1;rw[ah,h2]at h1;rw[<-h1];rfl
        have fy:=K.free o;go_upto_region 21 with fail
        have G:=K.jK o k;have n:=fp.setCell D (l,o) k;have F:=M.trans (n.below (by show B<=l;omega));have U:=am.dA n (show B≠l by omega);have ww:=i8.dA n (show X≠l by omega);have V:=aZ (w':=D.setCell (l,o) k) R (fun g J n6=>n.other g (f g J));have cx0:(D.setCell (l,o) k).cell? X=x.kind:=ww.cell 0;have hgl10:=G.lt;clear fy n cl ip jp cT8 cN;generalize D.setCell (l,o) k=Do at*;by_cases O:x.kind=1
        .have f10:(x.kind==1)=true:=by simp[O]
         have a5:=aU (show nb L (k+1) (L.drop (k+1)) ((k:Int)::a::t) ((la.set k (-1)).set o k)=some m by have:=r.out;rw[aS O]at this;rw[HQ.out,<-this];simp[S,T]);go_upto_region 22 with fail
         go_wp2_with (refine cR _ _ _ _ rfl ?_)
         have H:=V.alloc (.cells #[k] 3);have W:=G.alloc (.cells #[k] 3);have H1:=U.alloc (.cells #[k] 3);have In:=F.alloc (by omega) (.cells #[k] 3);have un:=df (aE.new Do 3 #[k]) (news:=[k]) rfl;refine⟨bD _ rfl (.tmp 126) (.tmp 128) 22 rfl B 3 i0 zQ 1 8 fD hi hz0 hz1 hz2 rfl (by decide) (g,t.length+1,cap) _ _ rfl H Do 1 1 [k] rfl rfl un (by simp[Value.oneCell']) (by unfold maxLen;omega) (by omega) (by simp;omega) ?_⟩;intro v' w11 UV I WF;have WP:=gg W W.lt I (fun e=>f l e.symm rfl);have hT12:=H1.grown H I (by decide);have hB12:=dw In H I (Nat.le_refl _) (by simp;omega);have a9:∀g,v'.ownBlock=some g->g≠l:=fun g J=>by
          rcases WF with h|⟨g',h1,h2⟩
          .exact f g (h▸J)
          .rw[h1]at J;cases J;simp at h2;omega
         simp only[Act.put,zA,zB,zC];go_wp2_with fail
         go_roundg (L.length-(k+1))
         case measure=>omega
         case rel=>
          refine⟨k+1,(k:Int)::a::t,_,rfl,C,rfl,a5,aU (by simpa using N.out),by simp;omega,?_,a9,WP,hT12,hB12⟩;simpa using UV
        .have f10:(x.kind==1)=false:=by simpa using O
         have a5:=aU (show nb L (k+1) (L.drop (k+1)) (a::t) ((la.set k (-1)).set o k)=some m by have:=r.out;rw[aI O]at this;rw[HQ.out,<-this];simp[S,T]);go_wp2_with fail
         go_roundg (L.length-(k+1))
         case measure=>omega
         case rel=>
          refine⟨k+1,a::t,_,rfl,C,rfl,a5,aU (by simpa using N.out),by simp;omega,?_,f,G,U,F⟩;simpa using V
      .have f4:(a !=(o:Int))=true:=by simpa using T
       go_wp2_with fail
       go_quiet (fail)
       go_wp2_with fail
       go_roundg t.length
       case measure=>simp
       case rel=>exact⟨t,rfl,aU (by have:=HPR.out;rwa[zx,aI T]at this),by omega,aZ (R2 P) (fun g _ _=>rfl),f,hd.more nq⟩
  .have hkl:k=L.length:=by omega
   subst hkl;have e1:=Di L.length L.length (by omega);have HLL:Hid (la=m):=aU (by have:=HR.out;rw[gZ]at this;simpa[nb]using this);rw[HLL.out]at hl N;clear HLL HR P f hst;go_upto_region 24 with fail
   go_wp2_with fail
   go_loopw [134] (fun s wr=>∃k:Nat,k<=L.length/\s=k/\aE wr l 3 (ints m)/\aE wr B 48 #[(u,d,L.length,c)]/\Below B w wr) (fun i _=>L.length-(intOf i).toNat)
   case atStart=>exact⟨0,aM _,rfl,hl,z,E⟩
   case round=>
    clear hl z E cT lw hTl e1;obtain⟨k,hk,rfl,hl,z,E⟩:=hrel;have hTl:=z.lt;have lw:=hl.lt;by_cases C:k<L.length
    .have e1:=lJ k L.length (by omega);obtain⟨b,off,x,hbx,hb2,HX,mp⟩:=jT (hA.below E) C;cases hbx;go_upto_region 26 with fail
     go_wp2_with (refine aX 121 rfl ?_)
     refine⟨bY rfl 121 _ rfl u (d+k*9) rfl x.arr _ mp Tryz.underlying121 rfl (kw _) ?_⟩;simp only[Act.put,zA,zB,zC];go_wp2_with (refine aX 121 rfl ?_)
     refine⟨dK x.arr rfl rfl rfl rfl (aE.new _ _ _) rfl (kw _) (qJ _) ?_⟩;intro w5 hX hC;simp only[Act.put,zA,zB,zC];have ge:Below B w w5:=(E.alloc (by omega) _).trans (hC.below (by omega));have g7:aE w5 B 48 #[(u,d,L.length,c)]:=(z.alloc _).dA hC (by omega);have Q:aE w5 l 3 (ints m):=(hl.alloc _).dA hC (by omega);have hgx:l<wr.heap.size:=lw;generalize pm:wr.heap.size=X at*;clear pm hC hl z E mp;have kl:k<m.length:=by rw[N.out];exact C
     obtain⟨y0,cy0,HY0⟩:=Q.nY kl;obtain⟨z1,z2,z3⟩:=hb.fin k x HX.out;rw[HY0.out]at z1 z2 z3;have cT5:w5.cell? B=(u,d,L.length,c):=g7.cell 0;have cx6:w5.cell? (X,6)=y0:=by have:=hX.cell 6;rw[this];show some (Value.int .i64 x.lst)=_;rw[z1]
     have cx5:w5.cell? (X,5)=x.fst:=hX.cell 5;have f1:(y0 !=y0)=false:=by simp
     have e9:IntKind.i64.wrap ((k:Int)+1)=((k+1:Nat):Int):=by rw[bE _ (by omega)];omega
     by_cases hy:y0= -1
     .rw[z2 hy]at cx5;rw[hy]at cy0 cx6 f1;go_wp2_with fail
      go_quiet (fail)
      go_wp2_with fail
      go_roundw
      case rel=>exact⟨k+1,by omega,rfl,Q,g7,qH ge _⟩
      case measure=>simp[intOf];omega
     .obtain⟨v1,v2,v3⟩:=z3 hy;obtain⟨pr,hpr⟩:∃pr:Nat,y0=(pr:Int):=⟨y0.toNat,by omega⟩;have pR:pr<L.length:=by omega
      have f7:((pr:Int)== -1)=false:=by simp
      have f9:((pr:Int) != -1)=true:=by simp
      rw[hpr]at cy0 cx6 f1 v3;obtain⟨b',off',y,e',-,HY,hyy⟩:=(hA.below ge).at_ pR;cases e';have cN:w5.cell? (u,d+pr*9+8)=zm:=by
       rw[hyy 8 y.nxt rfl];have h2:=HY.out;simp only[cJ]at v3;rw[ah,h2]at v3;rw[<-v3];rfl
      go_wp2_with fail
      go_quiet (fail)
      go_wp2_with fail
      go_roundw
      case rel=>exact⟨k+1,by omega,rfl,Q,g7,qH ge _⟩
      case measure=>simp[intOf];omega
    .have hkl:k=L.length:=by omega
     subst hkl;have e1:=Di L.length L.length (by omega);go_wp2_with fail
     go_ret
     exact⟨rfl,by rw[hg0.out];exact E⟩
