/- part of topCells.proved -/
import Derived.Test.YtkkiefcapbddkaaGreatDoorCd
import Derived.Test.YtkkiefcapbddkaaGreatDoorKt
set_option linter.all false
set_option maxRecDepth 1000000
set_option maxHeartbeats 0
noncomputable section
namespace Go.Abs
open Go.Proofs YtkkiefcapbddkaaGreatDoor Ord Num
variable{a:List Value}{n:Nat}{F:Nat->Nat}
section
def pG(adv:Int)(n:Nat):Num.Nd:=⟨(n:Int)*adv,(n:Int)*adv⟩
def pZ(out:List Nat)(k n:Nat):List Nat:=if k=out.length then out++[n]else out.set k (max (out.getD k 0) n)
def pe:Nat->List Nat->List Nat->List Nat
 |_,out,[]=>out
 |k,out,n::r=>pe (k+1) (pZ out k n) r
def fT:List Nat->List (List Nat)->List Nat
 |out,[]=>out
 |out,r::t=>fT (pe 0 out r) t
variable{adv:Int}(h1:1<=adv)(h2:adv<=500)
include h1 h2
theorem yb(a:n<=9):0<=(n:Int)*adv/\(n:Int)*adv<=4500:=by
 refine⟨ri (by omega) (by omega),?_⟩;have:(n:Int)*adv<=9*500:=Int.mul_le_mul (by omega) h2 (by omega) (by omega);omega
theorem aaY(a:n<=9):sat ((n:Int)*adv)=(n:Int)*adv:=by
 have:=yb h1 h2 a;unfold sat;omega
theorem aaZ(a n:Nat):max ((a:Int)*adv) ((n:Int)*adv)=((max a n:Nat):Int)*adv:=by
 rcases Nat.le_total a n with h|h
 .rw[adA h];exact Int.max_eq_right (jl (by omega) (by omega))
 .rw[adM h];exact adN (jl (by omega) (by omega))
theorem Nl(a:Nat)(b:n<=9):merge (pG adv a) (pG adv n)=pG adv (max a n):=by
 unfold merge pG;simp only[aaY h1 h2 b,aaZ h1 h2]
theorem aa0(out:List Nat)(k:Nat)(a:n<=9):Am (out.map (pG adv)) k (pG adv n)=(pZ out k n).map (pG adv):=by
 have b:Num.lp=pG adv 0:=by simp[Num.lp,pG]
 unfold Am pZ;rw[aj];split
 .rw[b,Nl h1 h2 0 a,List.map_append,Nat.zero_max];rfl
 .have e:(out.map (pG adv)).getD k Num.lp=pG adv (out.getD k 0):=by
   rw[b,List.getD_eq_getElem?_getD,ah,ai];cases out[k]? <;>rfl
  rw[e,Nl h1 h2 _ a,List.map_set]
theorem XZ:∀(r:List Nat) (k:Nat) (out:List Nat),(∀n∈r,n<=9)->II k (out.map (pG adv)) (r.map (pG adv))=(pe k out r).map (pG adv)
 |[],k,out,_=>rfl
 |n::r,k,out,h=>by
  rw[bV];unfold II pe;rw[aa0 h1 h2 out k (h n (by simp))];exact XZ r (k+1) _ fun m a=>h m (by simp[a])
theorem Te:∀(R:List (List Nat)) (out:List Nat),(∀r∈R,∀n∈r,n<=9)->Ap (out.map (pG adv)) (R.map (·.map (pG adv)))=(fT out R).map (pG adv)
 |[],out,_=>rfl
 |r::R,out,h=>by
  rw[bV];unfold Ap fT;rw[XZ h1 h2 r 0 out (h r (by simp))];exact Te R _ fun m a=>h m (by simp[a])
theorem ZG(R:List (List Nat))(h:∀r∈R,∀n∈r,n<=9):S5 (R.map (·.map (pG adv)))=(fT [] R).map (pG adv):=by
 unfold S5;rw[show([]:List Num.Nd)=([]:List Nat).map (pG adv)from rfl,Te h1 h2 R [] h,List.map_map];apply fa;intro a _;show fin (pG adv a)=pG adv a;unfold fin pG;simp
omit h1 h2 in
theorem WN{m:Nat}{out:List Nat}{k:Nat}(d:∀a∈out,1<=a/\a<=m)(e:1<=n/\n<=m):∀a∈pZ out k n,1<=a/\a<=m:=by
 intro a c;unfold pZ at c;split at c
 .rcases aJ.1 c with h|h
  .exact d a h
  .rw[bG.1 h];exact e
 .rcases su c with h|h
  .exact d a h
  .rw[h];have:out.getD k 0<=m:=by
    rw[ah];cases f:out[k]? with
    |none=>exact aM _
    |some b=>exact(d b (List.mem_of_getElem? f)).2
   omega
omit h1 h2 in
theorem Nn{m:Nat}:∀(r:List Nat) (k:Nat) (out:List Nat),(∀a∈out,1<=a/\a<=m)->(∀n∈r,1<=n/\n<=m)->∀a∈pe k out r,1<=a/\a<=m
 |[],k,out,b,c=>b
 |n::r,k,out,b,c=>Nn r (k+1) _ (WN b (c n (by simp))) fun x d=>c x (by simp[d])
omit h1 h2 in
theorem uV{m:Nat}:∀(R:List (List Nat)) (out:List Nat),(∀a∈out,1<=a/\a<=m)->(∀r∈R,∀n∈r,1<=n/\n<=m)->∀a∈fT out R,1<=a/\a<=m
 |[],out,b,c=>b
 |r::R,out,b,c=>uV R _ (Nn r 0 out b (c r (by simp))) fun x d=>c x (by simp[d])
omit h1 h2 in
theorem IM{out:List Nat}{k:Nat}(a:k<=out.length):(pZ out k n).length=max out.length (k+1):=by
 unfold pZ;split
 .simp;omega
 .simp;omega
omit h1 h2 in
theorem uW:∀(r:List Nat) (k:Nat) (out:List Nat),k<=out.length->(pe k out r).length=max out.length (k+r.length)
 |[],k,out,a=>by simp[pe];omega
 |n::r,k,out,a=>by
  unfold pe;rw[uW r (k+1) _ (by rw[IM a];omega),IM a,List.length_cons];omega
omit h1 h2 in
theorem iR:∀(R:List (List Nat)) (out:List Nat) (m:Nat),out.length<=m->(∀r∈R,r.length<=m)->(fT out R).length<=m/\out.length<=(fT out R).length/\∀r∈R,r.length<=(fT out R).length
 |[],out,m,c,a=>⟨c,Nat.le_refl _,fun r a=>by cases a⟩
 |r::R,out,m,c,a=>by
  unfold fT;have f:=uW r 0 out (Nat.zero_le _);have g:=a r (by simp);obtain⟨d,h,e⟩:=iR R (pe 0 out r) m (by omega) fun x b=>a x (by simp[b]);refine⟨d,by omega,fun x b=>?_⟩;rcases aw.1 b with rfl|b
  .omega
  .exact e x b
def bo(adv:Int)(a:List (List Nat)):List Int:=(fT [] a).map fun(n:Nat)=>(n:Int)*adv
omit h1 h2 in
theorem yc{l:List Int}(h:∀i,0<=l.getD i 0/\l.getD i 0<=4500):∀k,k<=9->0<=cB l k/\cB l k<=4500*k
 |0,_=>by simp[cB]
 |k+1,a=>by
  have ih:=yc h k (by omega);have b:=h k;have e:cB l (k+1)=add (cB l k) (l.getD k 0):=rfl;rw[e];unfold add sat;omega
theorem Tf{b:List (List Nat)}(e:∀r∈b,r.length<=9)(f:∀r∈b,∀n∈r,1<=n/\n<=9):E6 1048576 ((fT [] b).map (pG adv)) false=bo adv b:=by
 have d:=uV b [] (fun a h=>by cases h) f;have c:=(iR b [] 9 (by simp) e).1;have g:∀i,0<=(bo adv b).getD i 0/\(bo adv b).getD i 0<=4500:=by
  intro i;unfold bo;rw[ah,ai];cases j:(fT [] b)[i]? with
  |none=>simp
  |some a=>exact yb h1 h2 (d a (List.mem_of_getElem? j)).2
 have k:fI ((fT [] b).map (pG adv))=bo adv b:=by unfold fI bo;rw[fj];rfl
 have l:iC ((fT [] b).map (pG adv))=bo adv b:=by unfold iC bo;rw[fj];rfl
 have m:=yc g (fT [] b).length c;unfold E6;rw[k,l,List.length_map,aI (by omega),aI (by omega),aI (by simp)]
end
open Go.RowKit Mem ep
section
attribute[local instance] dZ
def wm(h:a.length=57):(Tryz.prog.info? 66).map (·.size)=some a.toArray.size:=by
 rw[bj,h];kernel_rfl
def kF(h:∀v∈a,v.oneCell'=true):a.toArray.all (·.oneCell')=true:=by
 rw[jD];intro x b;exact h x (by simpa using b)
def Ld{node:Nat}:(mO (x6 node (wd n))).length=57:=l8 (bu _ _)
def WZ{node:Nat}(m:1<=n)(o:n<=9)(g:node<=4000){W:World}(p:Gk F W){k:List Value}(l:RA F W (mO (x6 node (wd n))) k):
 Calls tp 215 #[.agg k.toArray] W fun e h=>∃f,e=false/\Below W W h/\Gk f h/\∀b,b<W.heap.size->f b=F b:=by
 rw[wg (adv:=0) (x:=0) (y:=0) (w:=0) n]at l;have i:=mQ (fY 0 0 0 0 node) dZ l (E5 g n) (wh n)
 letI:=fY 0 0 0 0 node
 have c:de.G=gS:=rfl;have q:PC tp 215 [.a (kZ n)] (.d (.b false)):=by
  have:n=1\/n=2\/n=3\/n=4\/n=5\/n=6\/n=7\/n=8\/n=9:=by omega
  rcases this with rfl|rfl|rfl|rfl|rfl|rfl|rfl|rfl|rfl
  .exact(jy bH c WO).2
  .exact(jy bH c WQ).2
  .exact(jy bH c WR).2
  .exact(jy bH c WT).2
  .exact(jy bH c WU).2
  .exact(jy bH c WV).2
  .exact(jy bH c WW).2
  .exact(jy bH c WX).2
  .exact(jy bH c WY).2
 refine(q.mH rfl p (GL.cons i.gv GL.nil)).mono ?_;rintro e h ⟨v,f,rfl,j,r,s,t⟩;have j:=j.cG;cases j;exact⟨f,rfl,r,s,t⟩
def Le:(Tryz.prog.info? 399).map (fun i=>(i.zero,i.size,i.bytes))=some (some (.agg #[zQ,zQ]),2,16):=by kernel_rfl
def nA(c:Int):∀d∈nI c,ln d:=by
 intro d e;simp only[nI,aw,bB,eA]at e;rcases e with rfl|rfl|rfl
 .exact .i _ _
 .exact .i _ _
 .exact .l 1 _ (by simp) (by decide) (fun i r j d a b=>by
   match i,a with
   |0,a=>
    cases a
    match j,b with
    |0,b=>cases b;exact .i _ _
    |j+1,b=>simp at b
   |i+1,a=>simp at a)
def Tg{d:Int}(ha1:1<=d)(ha2:d<=500)(f:List Nat)(Q:∀n∈f,1<=n/\n<=9)(hl:f.length<=9)(n0:Nat)(hn0:n0<=3000)(W:World)(o:Nat->Nat)(hk:Gk o W)(lv:List Value)(ii:RA o W (nI d) lv)(A:Option Addr)(c:Nat)
 (hkv:RD o W (il (lF n0 (f.map wd))) (.slice A f.length c)):
 Calls tp 272 #[.agg lv.toArray,.slice A f.length c] W fun e w'=>∃v F',e=.returned v/\Below W W w'/\Gk F' w'/\(∀b,b<W.heap.size->F' b=o b)/\(∀g,v.ownBlock=some g->F' g=0)/\w'.ownsRow W 399 2 v f.length ((f.map (pG d)).flatMap Num.Nd.cells):=by
 obtain⟨i9,hi9,hy9,hy8,hy7⟩:=info_parts Le;have R:=ii.len;obtain⟨S,T,U,rfl⟩:∃a b c,lv=[a,b,c]:=by
  match lv,R with
  |[a,b,c],_=>exact⟨a,b,c,rfl⟩
 replace Q:=aU Q;have io:aE (W.alloc (.cells #[S,T,U] 135)) W 135 #[S,T,U]:=aE.new _ _ _;have ip:Below W W (W.alloc (.cells #[S,T,U] 135)):=(Below.refl _ _).alloc (ae _) _;have hk0:Gk o (W.alloc (.cells #[S,T,U] 135)):=hk.alloc _;have i8:=hk.fresh _ (Nat.le_refl _);have u:∀(F:Nat->Nat) (w:World),Below W W w->(∀b,b<W.heap.size->F b=o b)->Kept o W F w:=fun F w hb hf=>Kept.kI hk hb hf;replace u:=aU u;go_enter Tryz.func272,Tryz.ntmps272
 go_upto_region 2 with fail
 generalize W.alloc (.cells #[S,T,U] 135)=w1 at*;obtain⟨B,x⟩:=iG W.heap.size;rw[<-x]at io ip i8 u|-;replace x:=aU x;go_wp2_with fail
 go_loopw [5,12] (fun s5 s12 wr=>∃(i:Nat) (v:Value) (F:Nat->Nat),i<=f.length/\s5=v/\s12=i/\Gk F wr/\Hid (∀b,b<B->F b=o b)/\F B=0/\Hid (∀g,v.ownBlock=some g->F g=0)/\aE wr B 135 #[S,T,U]/\Below B W wr/\wr.ownsRow (B+1) 399 2 v i (((f.take i).map (pG d)).flatMap Num.Nd.cells)) (fun _ s _=>f.length-(intOf s).toNat)
 case atStart=>exact⟨0,_,o,Nat.zero_le _,rfl,rfl,hk0,aU (fun _ _=>rfl),i8,aU (fun g p=>by cases p),io,ip,dl _ _ _ _⟩
 case round=>
  obtain⟨i,v,F,hi,rfl,rfl,V,hF,jp,X,hX,hB,Y⟩:=hrel;obtain⟨A1,c1,rfl,-⟩:=aV Y;have lw:=hX.lt;have Z:=u.out F wr hB hF.out;have H:=ii.move Z (nA d);have mp:=hkv.move Z (IH (uS _ _));by_cases hlt:i<f.length
  .have hd1:=lJ i f.length (by omega);obtain⟨n,hn⟩:∃n,f[i]? =some n:=⟨_,List.getElem?_eq_getElem hlt⟩;obtain⟨n6,pm⟩:=Q.out n (List.mem_of_getElem? hn);obtain⟨A',c',qr,hgt⟩:=kD mp;obtain⟨b0,rg,rfl,hb0,hFb,hat⟩:=hgt (fun e=>by have:=dY List.length e;rw[qR,aj]at this;have h0:f.length=0:=this;omega);injection qr with q1 q2 q3;subst q1 q3;clear q2;obtain⟨vs,un,y⟩:=hat i (x6 (n0+2*i) (wd n)) (by rw[uT,hn];rfl);have q:vs.length=57:=by rw[y.len];exact Ld
   have I:wr.rangeAt b0 (rg+i*57) vs.toArray.toList:=by simpa using un
   replace hn:=aU hn;replace qr:=trivial;clear un Z;go_wp2_with (refine aX 66 rfl ?_)
   refine⟨bY rfl 66 _ rfl b0 (rg+i*57) rfl vs.toArray _ I Tryz.underlying66 rfl (wm q) ?_⟩;go_wp2_with (refine aX 66 rfl ?_)
   refine⟨dK vs.toArray rfl rfl rfl rfl (aE.new _ _ _) (by show 57=vs.toArray.size;rw[bj,q]) (wm q) (kF y.one) ?_⟩;intro w2 z j;have am:=(Kept.alloc V _).trans (Kept.dA j (V.fresh _ (Nat.le_refl _)));have a5:=(V.alloc _).dA j (V.fresh _ (Nat.le_refl _));have k:=(hX.alloc _).dA j (by omega);have ut:=(hB.alloc (Nat.le_of_lt lw) _).trans (j.below (Nat.le_of_lt lw));have a9:=aZ (Y.alloc _) (fun g p _=>j.other g (by have:=(Y.lt g p).2;omega));have r:=y.move am (o9 _ (by unfold x6 l9;refine⟨bu _ _,?_⟩;unfold gV l9;refine⟨⟨bu _ _,?_⟩,?_⟩<;>(unfold gV;trivial)));have J:=H.move am (nA d);have hzx:=V.fresh _ (Nat.le_refl _);have wl:∀g,(Value.slice A1 i c1).ownBlock=some g->g≠wr.heap.size:=fun g p=>by have:=(Y.lt g p).2;omega
   generalize wr.heap.size=gx at*;clear j am V hX hB Y y H I;replace wl:=aU wl;have wn:=WZ (node:=n0+2*i) n6 pm (by omega) a5 r;go_wp2_with (refine aX 66 rfl ?_)
   refine⟨eu rfl rfl rfl z Tryz.underlying66 rfl (wm q) ?_⟩;go_upto_region 6 with(go_at_call 215;go_loud (refine wn.mono ?_;rintro e w3 ⟨F3,rfl,l,ww,t⟩))
   have em:=Kept.kI a5 l t;have Do:=z.below l z.lt;have h:=k.below l k.lt;have H1:=ut.trans (l.mono (Nat.le_of_lt k.lt));have eq:=ca a9 l;have K:=r.move em (o9 _ (by unfold x6 l9;refine⟨bu _ _,?_⟩;unfold gV l9;refine⟨⟨bu _ _,?_⟩,?_⟩<;>(unfold gV;trivial)));have L:=J.move em (nA d);have M:Hid (∀b,b<B->F3 b=o b):=aU (fun b hb=>(t b (by have:=k.lt;omega)).trans (hF.out b hb));have N:=(t B k.lt).trans jp;have O:Hid (∀g,(Value.slice A1 i c1).ownBlock=some g->F3 g=0):=aU (fun g p=>(t g (a9.lt g p).2).trans (X.out g p));clear em z k ut a9 r J t wn hF jp X a5 l;have In:=Ni ha1 ha2 n6 pm (node:=n0+2*i) (by omega) ww L K;go_wp2_with (first|refine dg 66 _ rfl rfl ?_|refine dg 135 _ rfl rfl ?_)
   refine⟨eu rfl rfl rfl h Tryz.underlying135 rfl (by kernel_rfl) ?_⟩;go_wp2_with (first|refine dg 66 _ rfl rfl ?_|refine dg 135 _ rfl rfl ?_)
   refine⟨eu rfl rfl rfl Do Tryz.underlying66 rfl (wm q) ?_⟩;go_upto_region 7 with(go_at_call 320;go_loud (refine In.mono ?_;rintro e w4 ⟨F4,rfl,C,UV,D⟩))
   have ge:=h.below C h.lt;have WF:=H1.trans (C.mono (Nat.le_of_lt h.lt));have WP:=ca eq C;have hF4':Hid (∀b,b<B->F4 b=o b):=aU (fun b hb=>(D b (by have:=h.lt;omega)).trans (M.out b hb));have hzB4:=(D B h.lt).trans N;have P:Hid (∀g,(Value.slice A1 i c1).ownBlock=some g->F4 g=0):=aU (fun g p=>(D g (eq.lt g p).2).trans (O.out g p));clear h H1 eq K L D In M N O ww Do C;have hB4l:=ge.lt;obtain⟨m,hm⟩:=iG ((n:Int)*d:Int);rw[<-hm];replace hm:=aU hm;go_wp2_with (refine cR _ _ _ _ rfl ?_)
   have g7:=ge.alloc (.cells #[m,m] 399);have hB5:=WF.alloc (Nat.le_of_lt hB4l) (.cells #[m,m] 399);have E:=WP.alloc (.cells #[m,m] 399);have g8:=UV.alloc (.cells #[m,m] 399);have hnw:=df (aE.new w4 399 #[m,m]) (news:=[m,m]) rfl;refine⟨bD _ rfl (.tmp 34) (.tmp 38) 314 rfl (B+1) 399 i9 (.agg #[zQ,zQ]) 2 16 Tryz.underlying314 hi9 hy9 hy8 hy7 rfl (by decide) (.slice A1 i c1) _ _ rfl E w4 1 1 [m,m] rfl rfl hnw (by simp[Value.oneCell']) (by unfold maxLen;omega) (by omega) (by simp;omega) ?_⟩;intro v' w6 ho6 G hf6;have hX6:aE w6 B 135 #[S,T,U]:=gg g7 g7.lt G (fun e=>by have:=(E.lt _ e.symm).1;omega);have hB6:=dw hB5 E G (by omega) (by simp;omega);have hG6:=g8.grown G P.out;have hzo6:=aU (iJ g8 hf6 P.out);obtain⟨A6,c6,rfl,-⟩:=aV ho6;clear g7 hB5 E ge WF WP hnw g8 UV G hf6;go_wp2_with fail
   go_roundw
   case rel=>
    refine⟨i+1,.slice A6 (i+1) c6,F4,by omega,rfl,by go_num,hG6,hF4',hzB4,hzo6,hX6,hB6,?_⟩;rw[bJ,hn.out,Option.toList_some,b9,bW];have hmm:=hm.out;subst hmm;exact ho6
   case measure=>simp[intOf];omega
  .have hil:i=f.length:=by omega
   subst hil;have hd1:=decide_eq_false (by omega);go_wp2_with fail
   go_ret
   rw[bL]at Y;rw[<-x.out];exact⟨_,F,rfl,hB,V,hF.out,X.out,eW Y (by omega)⟩
end
section
attribute[local instance] dZ
def pf(a:List (List Nat)):List (List ByteArray):=a.map (·.map wd)
def sr(a:Nat)(b:List (List Nat))(i:Nat):Nat:=a+((b.take i).map (fun r=>1+2*r.length)).sum
def Aw:∀(a:List (List Nat)) (b i:Nat),(gQ b (pf a))[i]? =(a[i]?).map fun c=>Pe (sr b a i) (c.map wd)
 |[],b,i=>by simp[gQ,pf]
 |r::a,b,0=>by simp[gQ,pf,sr]
 |r::a,b,i+1=>by
  have ih:=Aw a (b+(1+2*r.length)) i;unfold pf at ih|-;rw[bV];unfold gQ;rw[ap,ap,aj,ih]
  congr 2
  funext m
  congr 1
  simp[sr];omega
def Th{a:List (List Nat)}(e:a.length<=9)(b:∀r∈a,r.length<=9)(i:Nat):sr 2 a i<=200:=by
 unfold sr;have:=K6 (m:=19) ((a.take i).map (fun r=>1+2*r.length)) (fun x c=>by
  obtain⟨r,d,rfl⟩:=List.mem_map.1 c;have:=b r (List.mem_of_mem_take d);omega)
 rw[aj,aN]at this;have:19*min i a.length<=19*9:=Nat.mul_le_mul_left _ (by omega);omega
def No{w:World}{t:Bt}(e:ik t.sty){d:List Value}(h:RA F w (mO t) d):∃f,d[56]? =some f/\RD F w (il t.kids) f:=by
 cases t with
 |mk a b c s x g=>
  have i:s.length=52:=e.n;have j:d.length=57:=by rw[h.len];exact l8 e
  refine⟨d[56],List.getElem?_eq_getElem (by omega),h.at_ 56 _ _ ?_ (af (by omega))⟩;unfold mO;rw[ap,ap,ap,ay (by omega),i];show some _=some _
  congr 1
def W0:(Tryz.prog.info? 314).map (fun i=>(i.zero,i.size,i.bytes))=some (some (.slice none 0 0),1,24):=by kernel_rfl
def yd(n:Nat)(a:List ByteArray):l9 (Pe n a):=by
 unfold Pe l9;exact⟨bu _ _,uS a _⟩
def Lf{h:Int}(ha1:1<=h)(ha2:h<=500)(f:List (List Nat))(hR:f.length<=9)(hRl:∀r∈f,r.length<=9)(X:∀r∈f,∀n∈r,1<=n/\n<=9)(W:World)(o:Nat->Nat)(hk:Gk o W)(lv:List Value)(ip:RA o W (nI h) lv)(C:List Value)(i8:RA o W (mO (Io (pf f))) C):
 Calls tp 201 #[.agg lv.toArray,.agg C.toArray] W fun e w'=>∃A c Y F',e=.returned (.slice A f.length c)/\Below W W w'/\Gk F' w'/\(∀b,b<W.heap.size->F' b=o b)/\lG w' w' A 2 Num.Nd.cells Y (f.map (·.map (pG h))):=by
 obtain⟨i9,hi9,hy9,hy8,hy7⟩:=info_parts W0;have Z:=ip.len;obtain⟨D,E,G,rfl⟩:∃a b c,lv=[a,b,c]:=by
  match lv,Z with
  |[a,b,c],_=>exact⟨a,b,c,rfl⟩
 have hbl:C.length=57:=by rw[i8.len];exact l8 (nz _).is
 obtain⟨kv,p,q⟩:=No (nz _).is i8;replace q:RD o W (il (gQ 2 (pf f))) kv:=q;obtain⟨A,c,rfl,-⟩:=kD q;have O:(gQ 2 (pf f)).length=f.length:=by rw[uJ];unfold pf;rw[aj]
 rw[O]at q p;replace X:=aU X;replace P:=aU hRl;have jp:aE ((W.alloc (.cells #[D,E,G] 135)).alloc (.cells C.toArray 66)) W 135 #[D,E,G]:=(aE.new _ _ _).alloc _;have lw:aE ((W.alloc (.cells #[D,E,G] 135)).alloc (.cells C.toArray 66)) (W.heap.size+1) 66 C.toArray:=aE.newAt _ _ _ (by simp);have mp:Below W W ((W.alloc (.cells #[D,E,G] 135)).alloc (.cells C.toArray 66)):=((Below.refl _ _).alloc (ae _) _).alloc (by simp) _;have hk0:Gk o ((W.alloc (.cells #[D,E,G] 135)).alloc (.cells C.toArray 66)):=(hk.alloc _).alloc _;have n6:=hk.fresh _ (Nat.le_refl _);have H:∀(F:Nat->Nat) (w:World),Below W W w->(∀b,b<W.heap.size->F b=o b)->Kept o W F w:=fun F w hb hf=>Kept.kI hk hb hf;replace H:=aU H;go_enter Tryz.func201,Tryz.ntmps201
 go_upto_region 2 with fail
 generalize (W.alloc (.cells #[D,E,G] 135)).alloc (.cells C.toArray 66)=w1 at*;obtain⟨B,I⟩:=iG W.heap.size;rw[<-I]at jp lw mp n6 H|-;replace I:=aU I;have k56:=(lw.cell 56).trans (by simpa using p);go_wp2_with fail
 go_loopw [5,11] (fun s5 s11 wr=>∃(i:Nat) (v:Value) (J:List Value) (F:Nat->Nat),i<=f.length/\s5=v/\s11=i/\Gk F wr/\Hid (∀b,b<B->F b=o b)/\F B=0/\Hid (∀g,v.ownBlock=some g->F g=0)/\aE wr B 135 #[D,E,G]/\Below B W wr/\wr.ownsRow (B+1) 314 1 v i J/\kE wr 399 2 Num.Nd.cells J ((f.take i).map (·.map (pG h)))) (fun _ s _=>f.length-(intOf s).toNat)
 case atStart=>exact⟨0,_,[],o,Nat.zero_le _,rfl,rfl,hk0,aU (fun _ _=>rfl),n6,aU (fun g t=>by cases t),jp,mp,dl _ _ _ _,kE.nil _ _ _ _⟩
 case round=>
  obtain⟨i,v,J,F,hi,rfl,rfl,hG,hF,pm,qr,hX,hB,ho,hI⟩:=hrel;obtain⟨A1,c1,rfl,-⟩:=aV ho;have rg:=hX.lt;have am:=H.out F wr hB hF.out;have Q:=ip.move am (nA h);have un:=q.move am (IH (ox _ _));by_cases hlt:i<f.length
  .have hd1:=lJ i f.length (by omega);obtain⟨j,hn⟩:∃j,f[i]? =some j:=⟨_,List.getElem?_eq_getElem hlt⟩;have a5:=X.out j (List.mem_of_getElem? hn);have hnl:=P.out j (List.mem_of_getElem? hn);have hrs:=Th hR P.out i;obtain⟨A',c',ut,hgt⟩:=kD un;obtain⟨b0,wl,rfl,hb0,hFb,wn⟩:=hgt (fun e=>by have:=dY List.length e;rw[O]at this;have h0:f.length=0:=this;omega);injection ut with q1 q2 q3;subst q1 q3;clear q2;obtain⟨Y,ww,K⟩:=wn i (Pe (sr 2 f i) (j.map wd)) (by rw[Aw,hn];rfl);have a9:Y.length=57:=by rw[K.len];exact l8 (yd _ _).is
   have R:wr.rangeAt b0 (wl+i*57) Y.toArray.toList:=by simpa using ww
   replace wn:=trivial;replace hgt:=trivial;replace hn:=aU hn;replace ut:=trivial;replace a5:=aU a5;clear ww am;go_wp2_with (refine aX 66 rfl ?_)
   refine⟨bY rfl 66 _ rfl b0 (wl+i*57) rfl Y.toArray _ R Tryz.underlying66 rfl (wm a9) ?_⟩;go_wp2_with (refine aX 66 rfl ?_)
   refine⟨dK Y.toArray rfl rfl rfl rfl (aE.new _ _ _) (by show 57=Y.toArray.size;rw[bj,a9]) (wm a9) (kF K.one) ?_⟩;intro w2 Do l;have em:=(Kept.alloc hG _).trans (Kept.dA l (hG.fresh _ (Nat.le_refl _)));have H1:=(hG.alloc _).dA l (hG.fresh _ (Nat.le_refl _));have m:=(hX.alloc _).dA l (by omega);have In:=(hB.alloc (Nat.le_of_lt rg) _).trans (l.below (Nat.le_of_lt rg));have eq:=aZ (ho.alloc _) (fun g t _=>l.other g (by have:=(ho.lt g t).2;omega));have UV:=hI.map (fun g cs t=>(t.alloc _).dA l (by have:=t.lt;omega));have S:=K.move em (o9 _ (yd _ _));have T:=Q.move em (nA h);generalize wr.heap.size=gx at*;clear l em hG hX hB ho K Q R hI;obtain⟨kr,d,k⟩:=No (yd _ _).is S;replace k:RD F w2 (il (lF (sr 2 f i+1) (j.map wd))) kr:=k;obtain⟨Ar,cr,rfl,-⟩:=kD k;have ge:(lF (sr 2 f i+1) (j.map wd)).length=j.length:=by rw[qR,aj]
   rw[ge]at k d;replace ge:=aU ge;have c56:=(Do.cell 56).trans (by simpa using d);have U:=Tg ha1 ha2 j a5.out hnl (sr 2 f i+1) (by omega) w2 F H1 [D,E,G] T Ar cr k;replace k:=aU k;replace d:=aU d;go_wp2_with (refine dg 135 _ rfl rfl ?_)
   refine⟨eu rfl rfl rfl m Tryz.underlying135 rfl (by kernel_rfl) ?_⟩;go_wp2_with (first|(go_at_call 272;go_loud (refine U.mono ?_;rintro e w4 ⟨vn,F4,rfl,u,WF,L,hz4,g7⟩;obtain⟨M,N,rfl,-⟩:=aV g7))|refine cR _ _ _ _ rfl ?_)
   have g8:=m.below u m.lt;have WP:=In.trans (u.mono (Nat.le_of_lt m.lt));have ho4:=ca eq u;have hI4:=(UV.below u).push g7 (by simp);have hF4':Hid (∀b,b<B->F4 b=o b):=aU (fun b hb=>(L b (by have:=m.lt;omega)).trans (hF.out b hb));have hzB4:=(L B m.lt).trans pm;have V:Hid (∀g,(Value.slice A1 i c1).ownBlock=some g->F4 g=0):=aU (fun g t=>(L g (eq.lt g t).2).trans (qr.out g t));clear m In eq S T L U hF pm qr H1 Do u UV k d c56 hz4 g7;have hB4l:=g8.lt;have ii:=g8.alloc (.cells #[.slice M j.length N] 314);have hB5:=WP.alloc (Nat.le_of_lt hB4l) (.cells #[.slice M j.length N] 314);have y:=ho4.alloc (.cells #[.slice M j.length N] 314);have io:=WF.alloc (.cells #[.slice M j.length N] 314);have hI5:kE (w4.alloc (.cells #[.slice M j.length N] 314)) 399 2 Num.Nd.cells (J++[.slice M j.length N]) ((f.take i).map (·.map (pG h))++[j.map (pG h)]):=hI4.map (fun g cs t=>t.alloc _);have hnw:=df (aE.new w4 314 #[.slice M j.length N]) (news:=[.slice M j.length N]) rfl;refine⟨bD _ rfl (.tmp 15) (.tmp 20) 316 rfl (B+1) 314 i9 zn 1 24 Tryz.underlying316 hi9 hy9 hy8 hy7 rfl (by decide) (.slice A1 i c1) _ _ rfl y w4 1 1 [.slice M j.length N] rfl rfl hnw (by simp[Value.oneCell']) (by unfold maxLen;omega) (by omega) (by simp;omega) ?_⟩;intro v' w6 ho6 z hf6;have hX6:aE w6 B 135 #[D,E,G]:=gg ii ii.lt z (fun e=>by have:=(y.lt _ e.symm).1;omega);have hB6:=dw hB5 y z (by omega) (by simp;omega);have hG6:=io.grown z V.out;have hzo6:=aU (iJ io hf6 V.out);have hI6:=hI5.grown y z (by decide);obtain⟨A6,c6,rfl,-⟩:=aV ho6;clear ii hB5 y g8 WP ho4 hnw io WF z hf6 hI5 hI4;go_wp2_with fail
   go_roundw
   case rel=>
    refine⟨i+1,.slice A6 (i+1) c6,_,F4,by omega,rfl,by go_num,hG6,hF4',hzB4,hzo6,hX6,hB6,ho6,?_⟩;rw[bJ,hn.out,Option.toList_some,b9];exact hI6
   case measure=>simp[intOf];omega
  .have hil:i=f.length:=by omega
   subst hil;have hd1:=decide_eq_false (by omega);go_wp2_with fail
   go_ret
   rw[bL]at hI;rw[<-I.out];exact⟨_,_,_,F,rfl,hB,hG,hF.out,hI.aaX ho (fun x=>rfl)⟩
end
section
attribute[local instance] dZ
def aa1(R:List (List ByteArray)){w:World}(h:RA F w (mO (Io R)) a):a[7]? =zQ:=by
 have c:a.length=57:=by rw[h.len];exact l8 (nz R).is
 have b:=h.at_ 7 (.i .i64 0) a[7] (by unfold Io mO;rfl) (af (by omega));rw[af (by omega)];generalize a[7]=x at b|-;cases b;rfl
def E8{f:Int}(y:1<=f)(z:f<=500)(j:List (List Nat))(hR:j.length<=9)(k:∀r∈j,r.length<=9)(l:∀r∈j,∀n∈r,1<=n/\n<=9)(W:World)(M:Nat->Nat)(hk:Gk M W)(lv:List Value)(U:RA M W (nI f) lv)(m:List Value)(N:RA M W (mO (Io (pf j))) m):
 Calls tp 133 #[.agg lv.toArray,.agg m.toArray,(1048576:Int),false] W fun e V=>∃g F',e=.returned (.slice (some ⟨g,0,none⟩) (bo f j).length (bo f j).length)/\W.heap.size<=g/\Below W W V/\Gk F' V/\(∀b,b<W.heap.size->F' b=M b)/\aE V g 2 (ints (bo f j)):=by
 have O:=U.len;obtain⟨A,C,D,rfl⟩:∃a b c,lv=[a,b,c]:=by
  match lv,O with
  |[a,b,c],_=>exact⟨a,b,c,rfl⟩
 have eq:=(iR j [] 9 (by simp) k).1;have ge:m.length=57:=by rw[N.len];exact l8 (nz _).is
 have E:m.toArray[7]? =zQ:=by simpa using aa1 _ N
 have d:=fun(w:World) (hB:Below W W w) (hG:Gk M w)=>Lf y z j hR k l w M hG [A,C,D] (U.move (Kept.kI hk hB (fun _ _=>rfl)) (nA f)) m (N.move (Kept.kI hk hB (fun _ _=>rfl)) (o9 _ (nz _)));have p:Bet 70368744177664 ((fT [] j).map (pG f)):=by
  intro i;rw[ah,ai];cases hi:(fT [] j)[i]? with
  |none=>simp[Num.lp]
  |some a=>
   have:=yb y z (uV j [] (fun a h=>by cases h) l a (List.mem_of_getElem? hi)).2;simp only[cj,kK,pG];omega
 have s:∀i,(((fT [] j).map (pG f)).getD i Num.lp).least<=(((fT [] j).map (pG f)).getD i Num.lp).eY:=by
  intro i;rw[ah,ai];cases hi:(fT [] j)[i]? with
  |none=>simp[Num.lp]
  |some a=>exact kG _
 have P:(bo f j).length=(fT [] j).length:=by simp[bo]
 replace l:=aU l;replace k:=aU k;replace p:=aU p;replace s:=aU s;replace P:=aU P;replace d:=aU d;have X:aE ((W.alloc (.cells #[A,C,D] 135)).alloc (.cells m.toArray 66)) W 135 #[A,C,D]:=(aE.new _ _ _).alloc _;have Y:aE ((W.alloc (.cells #[A,C,D] 135)).alloc (.cells m.toArray 66)) (W.heap.size+1) 66 m.toArray:=aE.newAt _ _ _ (by simp);have g7:Below W W ((W.alloc (.cells #[A,C,D] 135)).alloc (.cells m.toArray 66)):=((Below.refl _ _).alloc (ae _) _).alloc (by simp) _;have g8:Gk M ((W.alloc (.cells #[A,C,D] 135)).alloc (.cells m.toArray 66)):=(hk.alloc _).alloc _;go_enter Tryz.func133,Tryz.ntmps133
 go_upto_region 1 with fail
 generalize (W.alloc (.cells #[A,C,D] 135)).alloc (.cells m.toArray 66)=w1 at*;have o:=X.drew;have t:=Y.drew;have Q:=g7.trans (Below.refl W w1).drew;have ii:=g8.drew;have d:=d.out w1.drew Q ii;obtain⟨B,F⟩:=iG W.heap.size;rw[<-F]at o t Q X Y|-;replace F:=aU F;refine a8 ?_;refine mI (S:=fun Z:World=>aE Z B 135 #[A,C,D]/\aE Z (B+1) 66 m.toArray/\Z.cell? (B+1,7)=zQ) 999 (.one 0 true (.one 1 true (.one 2 true (.one 5 true (.one 6 true (.one 7 true (.one 8 true (.one 9 true (.one 3 false (.one 4 false (.one 10 true (.one 11 true (.one 12 true (.one 13 false (.one 14 true .nil))))))))))))))) (by kernel_rfl) (by kernel_rfl) (by kernel_rfl) (by decide) (fun _ _ _ _ _ h=>h) (⟨o,t,(t.cell 7).trans E⟩) (fun rg=>?_);simp only[fL,aF,ap];(apply cU;rfl;(intro w R;go_simp;try(with_reducible rfl));simp only[Act.put,zA,zB,zC]);(refine gT (cQ rfl _ _ rfl B 0 rfl [A,C,D] _ (fun V h=>by simpa using h.1.range) Tryz.underlying135 rfl (by kernel_rfl)) ?_;simp only[Act.put,zA,zB,zC]);(refine gT (cQ rfl _ _ rfl (B+1) 0 rfl m _ (fun V h=>by simpa using h.2.1.range) Tryz.underlying66 rfl (by rw[ge];kernel_rfl)) ?_;simp only[Act.put,zA,zB,zC]);iterate 5 (apply cU;rfl;(intro w R;go_simp;try(with_reducible rfl));simp only[Act.put,zA,zB,zC])
 refine cC rfl rfl (fun K hK=>?_);go_simp
 refine d.mono ?_;rintro e w4 ⟨A4,c4,io,F4,rfl,T,am,ip,i8⟩;have G:=o.below T o.lt;have H:=t.below T t.lt;have jp:=Q.trans (T.mono (Nat.le_of_lt o.lt));have J:=Go.Proofs.YtkkiefcapbddkaaGreatDoor.BF (j.map (·.map (pG f))) io A4 c4 w4 (by rw[aj];omega) i8 (fun r hr=>by obtain⟨q,hq,rfl⟩:=List.mem_map.1 hr;rw[aj];have:=k.out q hq;omega);rw[aj,ZG y z j (fun r hr n hn=>(l.out r hr n hn).2)]at J;refine hK.out _ _ (⟨G,H,(H.cell 7).trans E⟩) (fun _=>?_);refine cC rfl rfl (fun K hK=>?_);go_simp
 refine J.mono ?_;rintro e w5 ⟨v5,rfl,u,a5⟩;obtain⟨A5,c5,rfl,-⟩:=aV a5;have v:=G.below u G.lt;have I:=H.below u H.lt;have lw:=jp.trans (u.mono (Nat.le_of_lt G.lt));have a9:=am.kept (Kept.kI (F':=F4) am u (fun _ _=>rfl)) u.size;have L:=Go.Proofs.YtkkiefcapbddkaaGreatDoor.E7 1048576 ((fT [] j).map (pG f)) A5 c5 false w5 (by rw[aj];omega) p.out s.out (by constructor<;>decide) (dU.qI (fun _=>rfl) (by decide) a5);rw[Tf y z k.out l.out,List.length_map]at L;rw[aj];refine hK.out _ _ (⟨v,I,(I.cell 7).trans E⟩) (fun _=>?_);iterate 3 (apply cU;rfl;(intro w R;go_simp;try(with_reducible rfl));simp only[Act.put,zA,zB,zC])
 refine cC rfl rfl (fun K hK=>?_);go_simp
 refine L.mono ?_;rintro e w6 ⟨g6,un,rfl,x,mp⟩;have n6:=v.below x v.lt;have em:=I.below x I.lt;have pm:=lw.trans (x.mono (Nat.le_of_lt v.lt));have qr:=a9.kept (Kept.kI (F':=F4) a9 x (fun _ _=>rfl)) x.size;refine hK.out _ _ (⟨n6,em,(em.cell 7).trans E⟩) (fun _=>?_);(apply cU;rfl;(intro w R;go_simp;try(with_reducible rfl));simp only[Act.put,zA,zB,zC]);refine fA (a7 ?_);go_wp2_with fail
 go_ret
 rw[<-F.out,P.out];exact⟨g6,F4,rfl,by have:=v.lt;omega,pm,qr,fun b hb=>ip b (by have:=o.lt;omega),mp⟩
