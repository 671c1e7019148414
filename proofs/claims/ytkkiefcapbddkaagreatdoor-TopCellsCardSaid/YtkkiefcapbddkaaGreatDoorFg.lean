/- part of topCells.proved -/
import Derived.Test.YtkkiefcapbddkaaGreatDoorFa
set_option linter.all false
set_option maxRecDepth 1000000
set_option maxHeartbeats 0
noncomputable section
namespace Go.Abs
open Go.RowKit Go.Proofs YtkkiefcapbddkaaGreatDoor Mem ep Ord
variable{C xs:List Value}{B d e g i j m n sz:Nat}{F:Nat->Nat}{kd kv rv v:Value}{A w:World}
section
attribute[local instance] dZ
def Cj:(Tryz.prog.info? 38).map (fun i=>(i.zero,i.size,i.bytes))=some (some (.agg #[zQ,zQ,zQ,zQ,zQ,zQ,.int .u32 0,eQ,zQ,false,zQ,zQ,zQ,zQ]),14,120):=by kernel_rfl
def I7:(Tryz.prog.info? 3).map (fun i=>(i.zero,i.size,i.bytes))=some (some (.int .i64 0),1,8):=by kernel_rfl
def im(w:World)(B c n:Nat)(d:List Value)(m:Nat):Prop:=∃a b e,aE w c 85 #[a,b]/\w.ownsRow B 38 14 a n d/\w.ownsRow B 3 1 b m e
def im.below{w A:World}{B C n m:Nat}{D:List Value}(h:im w B C n D m)(j:Below w w A):im A B C n D m:=by
 obtain⟨H,I,J,E,L,M⟩:=h;exact⟨H,I,J,E.below j E.lt,ca L j,ca M j⟩
def im.ne{t:TypeId}{D:Array Value}(h:im w B j n C m)(E:aE w g t D)(H:t≠85):g≠j:=by
 obtain⟨J,L,M,I,N,A⟩:=h;rintro rfl;have:=E.symm.trans I;injection this with this;injection this with _ A;exact H A
def im.lt{w:World}{B j n m:Nat}{A:List Value}(h:im w B j n A m):j<w.heap.size:=by
 obtain⟨D,E,H,C,I,J⟩:=h;exact C.lt
structure BX(gp B:Nat)(w w':World):Prop where
 os:w'.os=w.os
 tape:w'.tape=w.tape
 output:w'.output=w.output
 size:w.heap.size<=w'.heap.size
 block:∀k,k<B->k≠gp->w'.heap[k]? =w.heap[k]?
def BX.of{A:Nat}{j:World}(h:Below B w j):BX A B w j:=⟨h.os,h.tape,h.output,h.size,fun k C _=>h.block k C⟩
def BX.trans{j B:Nat}{a b c:World}(h:BX j B a b)(k:BX j B b c):BX j B a c:=⟨k.os.trans h.os,k.tape.trans h.tape,k.output.trans h.output,Nat.le_trans h.size k.size,fun i A C=>(k.block i A C).trans (h.block i A C)⟩
def BX.dA(h:fp j w A):BX j B w A:=⟨h.os,h.tape,h.output,by rw[h.size];exact ae _,fun i _ C=>h.other i C⟩
def BX.dJ{t:TypeId}{C:Array Value}(h:BX j B w A)(D:aE w g t C)(E:g<B)(H:g≠j):aE A g t C:=(h.block g E H).trans D
def BX.mono{A:Nat}{C:World}(h:BX j B w C)(E:A<=B):BX j A w C:=⟨h.os,h.tape,h.output,h.size,fun k H D=>h.block k (by omega) D⟩
def BX.gk(h:BX j B w A)(E:Gk F w)(C:∀b,0<F b->b<B/\b≠j):Gk F A:=E.kept (fun b D=>⟨rfl,h.block b (C b D).1 (C b D).2⟩) h.size
def BX.kept(h:BX j B w A)(C:∀b,0<F b->b<B/\b≠j):Kept F w F A:=fun b D=>⟨rfl,h.block b (C b D).1 (C b D).2⟩
def nh(w d:World):Prop:=∀b c a,a≠85->a≠38->a≠3->aE w b a c->aE d b a c
def nh.refl(w:World):nh w w:=fun _ _ _ _ _ _ h=>h
def nh.trans{a b c:World}(h:nh a b)(k:nh b c):nh a c:=fun g j A B C D E=>k g j A B C D (h g j A B C D E)
def nh.of{j:World}(h:Below w w j):nh w j:=fun g B C _ _ _ A=>A.below h A.lt
def nh.grown(D:w.ownsRow B e sz v n C)(E:w.grownBy A v.ownBlock)(H:e=38\/e=3):nh w A:=fun g M N O I J j=>(E.block g j.lt (fun L=>dM D j (by rcases H with rfl|rfl;exact fun q=>I q.symm;exact fun q=>J q.symm) L.symm)).trans j
def nh.cell{w:World}{j i:Nat}{B:Array Value}(C:aE w j 85 B)(v:Value):nh w (w.setCell (j,i) v):=fun g D H E I J A=>A.dA (fp.setCell w (j,i) v) (fun e=>by
 have e:g=j:=e;subst e;have:=A.symm.trans C;injection this with this;injection this with _ h;exact E h)
def nh.own(h:nh w A)(E:e≠85)(H:e≠38)(I:e≠3)(D:w.ownsRow B e sz v n C):A.ownsRow B e sz v n C:=by
 refine⟨D.1,?_⟩;rcases D.2 with q|⟨g,cap,j,J,L,M,N⟩
 .exact .inl q
 .exact .inr ⟨g,cap,j,J,L,h g j e E H I M,N⟩
def ZX{a:List Value}(h:a.length=14):(Tryz.prog.info? 38).map (·.size)=some a.toArray.size:=by
 rw[bj,h];kernel_rfl
def TL(x y a b:Int)(g:0<a)(h:0<b)(w:World):Calls tp 296 #[.agg #[x,y,a,b]] w fun e d=>e=false/\Below w w d:=by
 have d1:decide (a<=0)=false:=aA (by omega);have d2:decide (b<=0)=false:=aA (by omega);have c:aE (w.alloc (.cells #[x,y,a,b] 35)) w 35 #[x,y,a,b]:=aE.new _ _ _;have f:Below w w (w.alloc (.cells #[x,y,a,b] 35)):=(Below.refl _ _).alloc (ae _) _;go_enter Tryz.func296,Tryz.ntmps296
 go_upto_region 1 with fail
 generalize w.alloc (.cells #[x,y,a,b] 35)=w1 at*;have i:=c.cell 2;have j:=c.cell 3;go_wp2_with fail
 go_ret
 exact⟨rfl,f⟩
def vg(b nd:Int)(r:R4)(a:Int)(c:ByteArray)(sz:Int):List Value:=[b,nd,r.x,r.y,r.w,r.h,.int .u32 a,c,sz,false,zQ,zQ,zQ,zQ]
def Xg(b nd:Int)(r:R4)(a:Int)(c:ByteArray)(sz:Int):∀u∈vg b nd r a c sz,u.oneCell'=true:=by simp[vg,Value.oneCell']
def Fk{f c a:Nat}{d:Value}{j b:List Value}(h:w.ownsRow B e sz v n j)(k:w.ownsRow f c a d i b)(l:e≠c):v.ownBlock=none\/v.ownBlock≠d.ownBlock:=by
 cases m:v.ownBlock with
 |none=>exact .inl rfl
 |some g=>exact .inr (kT h k l m)
def Nv{l:Nat}(hp:im w B l n xs m)(G:B<=w.heap.size)(hn:n<=5000)(c nd:Int)(r:R4)(a:Int)(d:ByteArray)(sz:Int)(hw:0<r.w)(hh:0<r.h):
 Calls tp 238 #[pt l,.agg (vg c nd r a d sz).toArray,false,.agg #[zQ,zQ,zQ,zQ]] w fun e u=>e=rQ/\BX l B w u/\nh w u/\im u B l (n+1) (xs++vg c nd r a d sz) m:=by
 obtain⟨i9,X,Y,am,a5⟩:=info_parts Cj;obtain⟨W,ov,os,hP,hI,hO⟩:=hp;have H:Hid (∀g,W.ownBlock=some g->g<w.heap.size):=aU (fun g hg=>(hI.lt g hg).2);obtain⟨S,F⟩:=iG w.heap.size;have I:=hP.lt;have q:aE ((w.alloc (.cells (vg c nd r a d sz).toArray 38)).alloc (.cells #[zQ,zQ,zQ,zQ] 35)) S 38 (vg c nd r a d sz).toArray:=by rw[F];exact(aE.new _ _ _).alloc _
 have s:Below S w ((w.alloc (.cells (vg c nd r a d sz).toArray 38)).alloc (.cells #[zQ,zQ,zQ,zQ] 35)):=by rw[F];exact((Below.refl _ _).alloc (ae _) _).alloc (by simp) _
 go_enter Tryz.func238,Tryz.ntmps238
 go_upto_region 1 with fail
 generalize (w.alloc (.cells (vg c nd r a d sz).toArray 38)).alloc (.cells #[zQ,zQ,zQ,zQ] 35)=w1 at*;rw[F]at s;have a9:=nh.of s;have z:=hP.below s I;have J:=ca hI s;have L:=ca hO s;rw[<-F]at s I H G|-;replace F:=aU F;have k2:w1.cell? (S,2)=r.x:=q.cell 2;have k3:w1.cell? (S,3)=r.y:=q.cell 3;have k4:w1.cell? (S,4)=r.w:=q.cell 4;have k5:w1.cell? (S,5)=r.h:=q.cell 5;have M:=TL r.x r.y r.w r.h hw hh w1;go_upto_region 5 with(go_at_call 296;go_loud (refine M.mono ?_;rintro e i ⟨rfl,f⟩))
 have N:=z.below f z.lt;have A:=q.below f q.lt;have O:=ca J f;have em:=ca L f;have eq:B<=S:=G;have ge:=a9.trans (nh.of f);have g7:=(s.mono eq).trans (f.mono (by have:=q.lt;omega));have un:=A.lt;clear hP hI hO z q J L f M k2 k3 k4 k5 s;have g8:Hid (W.ownBlock≠some S):=aU (fun e=>by have:=(H.out S e);omega);refine a8 ?_;refine dW (S:=fun Z:World=>Z.cell? l=some W/\aE Z S 38 (vg c nd r a d sz).toArray) 10 [1,1,1,1,1,1,0,0,1,1,0] (by kernel_rfl) (fun _ _ _ _ _ h=>h) (⟨N.drew.cell 0,A.drew⟩) (fun ut=>?_);simp only[osq,fL,aF,ap];iterate 5 (apply cU;rfl;(intro w ii;go_simp;try(with_reducible rfl));simp only[Act.put,zA,zB,zC])
 (refine gT (cQ rfl _ _ rfl S 0 rfl (vg c nd r a d sz).toArray.toList _ (fun u h=>by simpa using h.2.range) Tryz.underlying38 rfl (by rw[aH];exact ZX rfl)) ?_;simp only[Act.put,zA,zB,zC])
 refine cC rfl rfl (fun K t=>?_);refine gK (v:=(i.drew.heap.size,1,1)) (w':=i.drew.alloc (.cells (vg c nd r a d sz).toArray 38)) (by kernel_rfl) ?_;have io:i.drew.heap.size=i.heap.size:=rfl;have p:=N.drew.alloc (.cells (vg c nd r a d sz).toArray 38);have C:=A.drew.alloc (.cells (vg c nd r a d sz).toArray 38);have j:=(fS O).alloc (.cells (vg c nd r a d sz).toArray 38);have P:=(fS em).alloc (.cells (vg c nd r a d sz).toArray 38);have ip:=(g7.trans (Below.refl B i).drew).alloc (by omega) (.cells (vg c nd r a d sz).toArray 38);have i8:=df (aE.new i.drew 38 (vg c nd r a d sz).toArray) (news:=vg c nd r a d sz) rfl;have Q:(i.drew.alloc (.cells (vg c nd r a d sz).toArray 38)).heap.size=i.heap.size+1:=by simp[io]
 refine t.out _ _ (⟨p.cell 0,C⟩) (fun _=>?_);clear t K;refine cC rfl rfl (fun K t=>?_);refine du (i.drew.alloc (.cells (vg c nd r a d sz).toArray 38)) _ _ 28 rfl B 38 i9 _ 14 120 Tryz.underlying28 X Y am a5 rfl (by decide) W n _ rfl j i.drew.heap.size 1 1 (vg c nd r a d sz) rfl rfl i8 (Xg _ _ _ _ _ _) (by unfold maxLen;omega) (by omega) (by rw[Q];omega) ?_;intro v5 R D o wl;have k:aE R l 85 _:=(o.block l p.lt (fun e=>dM j p (by decide) e.symm)).trans p;have jp:=(o.block S C.lt (fun e=>by have:=O.lt S e.symm;have:=j.lt S e.symm;exact g8.out e.symm)).trans C;have T:=gO P o (Fk P j (by decide));have lw:=(ge.trans ((nh.of (Below.refl i i).drew).trans (nh.of ((Below.refl i.drew.heap.size i.drew).alloc (ae _) _)))).trans (nh.grown j o (.inl rfl));have mp:=dw ip j o (Nat.le_refl _) (by rw[Q];omega);refine t.out _ _ (⟨k.cell 0,jp⟩) (fun _=>?_);clear t K;iterate 2 (apply cU;rfl;(intro w ii;go_simp;try(with_reducible rfl));simp only[Act.put,zA,zB,zC])
 refine lW rfl rfl (fun K t=>?_);have q2:=k.free 0;obtain⟨U,V,rfl,-⟩:=aV D;go_simp
 refine t.out _ _ ?_;clear t K;refine fA (a7 ?_);have E:=fp.setCell R l (.slice U (n+1) V);have n6:aE (R.setCell l (.slice U (n+1) V)) l 85 #[.slice U (n+1) V,ov]:=k.put 0 _;have pm:=aZ (w':=R.setCell l (.slice U (n+1) V)) D (fun b hb _=>E.other b (fun e=>dM D k (by decide) (by rw[hb];exact dY some e)));have qr:=aZ (w':=R.setCell l (.slice U (n+1) V)) T (fun b hb _=>E.other b (fun e=>dM T k (by decide) (by rw[hb];exact dY some e)));have rg:=(BX.of mp).trans (BX.dA E);go_wp2_with fail
 exact cP (cL rfl _ _ _) rfl ⟨rfl,rg,lw.trans (nh.cell k _),_,ov,os,n6,pm,qr⟩
end
section
attribute[local instance] dZ
def ZY:ij (gR []) 40 195 [.a (bh 1 0)] (.a z4)=true:=by decide+kernel
def ZZ:ij (gR []) 40 195 [.a (bh 4 0)] (.a z4)=true:=by decide+kernel
def Z0:ij (gR []) 40 195 [.a (bh 5 0)] (.a z4)=true:=by decide+kernel
def Plain(d c:Int):Prop:=(d=1/\c=0)\/(d=4/\c=0)\/(d=5/\c=0)\/(d=6/\c=4278190335)
def Nw{d c:Int}(h:Plain d c){W:World}(g:Gk F W):Calls tp 195 #[.agg (db (bh d c))] W fun e f=>e=.returned (.agg #[zQ,zQ,zQ,zQ])/\Below W W f:=by
 have i:PC tp 195 [.a (bh d c)] (.a z4):=by
  have b:de.G=gS:=rfl;rcases h with⟨rfl,rfl⟩|⟨rfl,rfl⟩|⟨rfl,rfl⟩|⟨rfl,rfl⟩
  .exact(jy bH b ZY).2
  .exact(jy bH b ZZ).2
  .exact(jy bH b Z0).2
  .exact(jy bH b Np).2
 refine(i.mH rfl g (GL.cons ((bu _ _).gv _ _) GL.nil)).mono ?_;rintro e f ⟨v,l,rfl,j,k,m,n⟩;rw[Lg j];exact⟨rfl,k⟩
def aba(w:World):(binOp .neq 139 (.agg #[zQ,zQ,zQ,zQ]) (.agg #[zQ,zQ,zQ,zQ])).run tp w=.ok false w:=by kernel_rfl
def Lw{c:Nat}{t:dO}(hk:Gk F w)(hF:∀b,0<F b->b<B/\b≠c)(hp:im w B c n xs m)(H1:B<=w.heap.size)(hn:n<=5000)(hm:m<=5000)(hQ:aE w g 267 (C9 t rv kd kv))(In:g<B)(ge:Plain t.disp t.bg)(I:t.bg=0):
 Calls tp 155 #[pt c,pt g] w fun e Q=>e=rQ/\BX c B w Q/\nh w Q/\im Q B c n xs (m+1):=by
 obtain⟨i9,g7,g8,ii,io⟩:=info_parts I7;obtain⟨iv,ov,os,hP,hI,hO⟩:=hp;replace hF:=aU hF;go_enter Tryz.func155,Tryz.ntmps155
 go_upto_region 0 with fail
 refine a8 ?_;refine dW (S:=fun Z:World=>Z.cell? (c,1)=some ov/\Z.cell? (g,2)=t.node) 15 [1,1,1,1,1,1,1,1,1,1,1,0,0,1,1,0] (by kernel_rfl) (fun _ _ _ _ _ h=>h) (⟨hP.drew.cell 1,hQ.drew.cell 2⟩) (fun ip=>?_);simp only[osq,fL,aF,ap];iterate 11 (apply cU;rfl;(intro w i8;go_simp;try(with_reducible rfl));simp only[Act.put,zA,zB,zC])
 refine cC rfl rfl (fun K D=>?_);refine gK (v:=(w.drew.heap.size,1,1)) (w':=w.drew.alloc (.cells #[t.node] 3)) (by kernel_rfl) ?_;have jp:w.drew.heap.size=w.heap.size:=rfl;have k:=hP.drew.alloc (.cells #[t.node] 3);have l:=hQ.drew.alloc (.cells #[t.node] 3);have J:=(fS hI).alloc (.cells #[t.node] 3);have d:=(fS hO).alloc (.cells #[t.node] 3);have R:=((Below.refl B w).drew).alloc (by omega) (.cells #[t.node] 3);have T:=df (aE.new w.drew 3 #[t.node]) (news:=[t.node]) rfl;have L:(w.drew.alloc (.cells #[t.node] 3)).heap.size=w.heap.size+1:=by simp[jp]
 refine D.out _ _ (⟨k.cell 1,l.cell 2⟩) (fun _=>?_);clear D K;refine cC rfl rfl (fun K D=>?_);refine du (w.drew.alloc (.cells #[t.node] 3)) _ _ 22 rfl B 3 i9 _ 1 8 Tryz.underlying22 g7 g8 ii io rfl (by decide) ov m _ rfl d w.drew.heap.size 1 1 [t.node] rfl rfl T (by simp[Value.oneCell']) (by unfold maxLen;omega) (by omega) (by rw[L];omega) ?_;intro v5 E z f lw;have a:aE E c 85 _:=(f.block c k.lt (fun e=>dM d k (by decide) e.symm)).trans k;have A:aE E g 267 _:=(f.block g l.lt (fun e=>dM d l (by decide) e.symm)).trans l;have M:=gO J f (Fk J d (by decide));have U:=((nh.of (Below.refl w w).drew).trans (nh.of ((Below.refl w.drew.heap.size w.drew).alloc (ae _) _))).trans (nh.grown d f (.inr rfl));have V:=dw R d f (Nat.le_refl _) (by rw[L];omega);refine D.out _ _ (⟨a.cell 1,A.cell 2⟩) (fun _=>?_);clear D K;iterate 2 (apply cU;rfl;(intro w i8;go_simp;try(with_reducible rfl));simp only[Act.put,zA,zB,zC])
 refine lW rfl rfl (fun K D=>?_);have q1:=a.cell 1;have q2:=a.free 1;obtain⟨G,H,rfl,-⟩:=aV z;go_simp
 refine D.out _ _ ?_;clear D K;refine fA (a7 ?_);have o:=fp.setCell E (c,1) (.slice G (m+1) H);have W:aE (E.setCell (c,1) (.slice G (m+1) H)) c 85 #[iv,.slice G (m+1) H]:=a.put 1 _;have X:=aZ (w':=E.setCell (c,1) (.slice G (m+1) H)) M (fun b hb _=>o.other b (fun e=>dM M a (by decide) (by rw[hb];exact dY some e)));have Y:=aZ (w':=E.setCell (c,1) (.slice G (m+1) H)) z (fun b hb _=>o.other b (fun e=>dM z a (by decide) (by rw[hb];exact dY some e)));have N:=(BX.of V).trans (BX.dA o);have UV:=N.size;have mp:=U.trans (nh.cell (i:=1) a (.slice G (m+1) H));have q:=A.dA o (wG A a (by decide));have r:im (E.setCell (c,1) (.slice G (m+1) H)) B c n xs (m+1):=⟨_,_,_,W,X,Y⟩;clear U o W X Y a A M z f lw V k l J d R T L q1 q2 hP hI hO ip hQ;generalize E.setCell (c,1) (.slice G (m+1) H)=w6 at*;have n6:=q.lt;have pm:=r.lt;have am:w6.rangeAt g 3 (db (bh t.disp t.bg)).toList:=fun j u hu=>by
  rw[q.cell (3+j)];have hj:(List.map dV (bh t.disp t.bg))[j]? =some u:=by simpa[db]using hu
  rw[ai,dH]at hj;obtain⟨WF,h1,rfl⟩:=hj;have:=Bc.ES (b:=ftB t) (bu _ _) h1;have WP:3+j<57:=by have:=(aa.1 h1).1;have e:(bh t.disp t.bg).length=52:=rfl;omega
  unfold C9 Nr;rw[cK,bC,an (by have:=Bc.len (b:=ftB t) (bu _ _);omega)];simpa[Bc.arr]using this
 go_wp2_with (refine aX 63 rfl ?_)
 refine⟨bY rfl 63 _ rfl g 3 rfl (db (bh t.disp t.bg)) _ am Tryz.underlying63 rfl (dG (bu _ _)) ?_⟩;simp only[Act.put,zA,zB,zC];go_wp2_with (refine aX 63 rfl ?_)
 refine⟨dK (db (bh t.disp t.bg)) rfl rfl rfl rfl (aE.new _ _ _) (by kernel_rfl) (dG (bu _ _)) (by rw[jD];intro x hx;obtain⟨y,hy,rfl⟩:=List.mem_map.1 (show x∈(bh t.disp t.bg).map dV by simpa[db]using hx);exact(Cf (F:=F) (w:=w6) (List.all_eq_true.1 (bu t.disp t.bg).p y hy)).one) ?_⟩;intro w7 C a5;have s:=((Below.refl _ _).alloc (ae _) _).trans (a5.below (Nat.le_refl _));have a9:=r.below s;have qr:=q.below s q.lt;have em:=N.trans (BX.of (s.mono (by omega)));have hz7:=em.size;have rg:=mp.trans (nh.of s);obtain⟨S,hS⟩:=iG w6.heap.size;rw[<-hS]at C n6 pm|-;replace hS:=aU hS;clear a5 s r q N am;have un:w7.cell? (S,42)=false:=C.cell 42;have ut:w7.cell? (S,37)=some (.int .u32 0):=(C.cell 37).trans (by rw[<-I];rfl);replace I:=aU I;go_upto_region 5 with fail
 have eq:=a9;have hQ8:=qr;have wl:=C;have wn:=rg;have O:=em;generalize w7=w8 at*;clear un ut;have ww:=O.gk hk hF.out;have Do:=Nw ge ww;have hq4:=aba;go_upto_region 5 with fail
 go_wp2_with (first|refine dg 63 _ rfl rfl ?_)
 refine⟨eu rfl rfl rfl wl Tryz.underlying63 rfl (dG (bu _ _)) ?_⟩;go_wp2_with (go_at_call 195;go_loud (refine Do.mono ?_;rintro e w9 ⟨rfl,P⟩))
 exact cP (cL rfl _ _ _) rfl ⟨rfl,O.trans (BX.of (P.mono (by have:=O.size;omega))),wn.trans (nh.of P),eq.below P⟩
def Lx{f:Nat}{t:dO}(hk:Gk F w)(hF:∀b,0<F b->b<B/\b≠f)(hp:im w B f n xs m)(hBw:B<=w.heap.size)(hn:n<=5000)(hm:m<=5000)(hQ:aE w g 267 (C9 t rv kd kv))(n6:g<B)(pm:Plain t.disp t.bg)(r:t.bg=4278190335)(qr:0<t.rc.w)(rg:0<t.rc.h):
 Calls tp 155 #[pt f,pt g] w fun e Y=>e=rQ/\BX f B w Y/\nh w Y/\im Y B f (n+1) (xs++vg 1 t.node t.rc 4278190335 eQ 0) (m+1):=by
 obtain⟨i9,un,ut,wl,wn⟩:=info_parts I7;obtain⟨iv,ov,os,hP,hI,hO⟩:=hp;have am:=wG hQ hP (by decide);replace hF:=aU hF;go_enter Tryz.func155,Tryz.ntmps155
 go_upto_region 0 with fail
 refine a8 ?_;refine dW (S:=fun Z:World=>Z.cell? (f,1)=some ov/\Z.cell? (g,2)=t.node) 15 [1,1,1,1,1,1,1,1,1,1,1,0,0,1,1,0] (by kernel_rfl) (fun _ _ _ _ _ h=>h) (⟨hP.drew.cell 1,hQ.drew.cell 2⟩) (fun a5=>?_);simp only[osq,fL,aF,ap];iterate 11 (apply cU;rfl;(intro w Q;go_simp;try(with_reducible rfl));simp only[Act.put,zA,zB,zC])
 refine cC rfl rfl (fun K s=>?_);refine gK (v:=(w.drew.heap.size,1,1)) (w':=w.drew.alloc (.cells #[t.node] 3)) (by kernel_rfl) ?_;have ww:w.drew.heap.size=w.heap.size:=rfl;have z:=hP.drew.alloc (.cells #[t.node] 3);have A:=hQ.drew.alloc (.cells #[t.node] 3);have R:=(fS hI).alloc (.cells #[t.node] 3);have k:=(fS hO).alloc (.cells #[t.node] 3);have a9:=((Below.refl B w).drew).alloc (by omega) (.cells #[t.node] 3);have em:=df (aE.new w.drew 3 #[t.node]) (news:=[t.node]) rfl;have T:(w.drew.alloc (.cells #[t.node] 3)).heap.size=w.heap.size+1:=by simp[ww]
 simp only[Act.put,zA,zB,zC];refine s.out _ _ (⟨z.cell 1,A.cell 2⟩) (fun _=>?_);clear s K;refine cC rfl rfl (fun K s=>?_);refine du (w.drew.alloc (.cells #[t.node] 3)) _ _ 22 rfl B 3 i9 _ 1 8 Tryz.underlying22 un ut wl wn rfl (by decide) ov m _ rfl k w.drew.heap.size 1 1 [t.node] rfl rfl em (by simp[Value.oneCell']) (by unfold maxLen;omega) (by omega) (by rw[T];omega) ?_;intro v5 L H l Do;have d:aE L f 85 _:=(l.block f z.lt (fun e=>dM k z (by decide) e.symm)).trans z;have I:aE L g 267 _:=(l.block g A.lt (fun e=>dM k A (by decide) e.symm)).trans A;have U:=gO R l (Fk R k (by decide));have eq:=((nh.of (Below.refl w w).drew).trans (nh.of ((Below.refl w.drew.heap.size w.drew).alloc (ae _) _))).trans (nh.grown k l (.inr rfl));have ge:=dw a9 k l (Nat.le_refl _) (by rw[T];omega);simp only[Act.put,zA,zB,zC];refine s.out _ _ (⟨d.cell 1,I.cell 2⟩) (fun _=>?_);clear s K;iterate 2 (apply cU;rfl;(intro w Q;go_simp;try(with_reducible rfl));simp only[Act.put,zA,zB,zC])
 refine lW rfl rfl (fun K s=>?_);have q1:=d.cell 1;have q2:=d.free 1;obtain⟨M,N,rfl,-⟩:=aV H;go_simp
 (try simp only[Act.put,zA,zB,zC])
 refine s.out _ _ ?_;clear s K;refine fA (a7 ?_);have C:=fp.setCell L (f,1) (.slice M (m+1) N);have g7:aE (L.setCell (f,1) (.slice M (m+1) N)) f 85 #[iv,.slice M (m+1) N]:=d.put 1 _;have g8:=aZ (w':=L.setCell (f,1) (.slice M (m+1) N)) U (fun b hb _=>C.other b (fun e=>dM U d (by decide) (by rw[hb];exact dY some e)));have ii:=aZ (w':=L.setCell (f,1) (.slice M (m+1) N)) H (fun b hb _=>C.other b (fun e=>dM H d (by decide) (by rw[hb];exact dY some e)));have V:=(BX.of ge).trans (BX.dA C);have hz6:=V.size;have H1:=eq.trans (nh.cell (i:=1) d (.slice M (m+1) N));have D:=I.dA C (wG I d (by decide));have E:im (L.setCell (f,1) (.slice M (m+1) N)) B f n xs (m+1):=⟨_,_,_,g7,g8,ii⟩;clear eq C g7 g8 ii d I U H l Do ge z A R k a9 em T q1 q2 hP hI hO a5 hQ;generalize L.setCell (f,1) (.slice M (m+1) N)=w6 at*;have In:=D.lt;have UV:=E.lt;have io:w6.rangeAt g 3 (db (bh t.disp t.bg)).toList:=fun j u hu=>by
  rw[D.cell (3+j)];have hj:(List.map dV (bh t.disp t.bg))[j]? =some u:=by simpa[db]using hu
  rw[ai,dH]at hj;obtain⟨dd',h1,rfl⟩:=hj;have:=Bc.ES (b:=ftB t) (bu _ _) h1;have hlt:3+j<57:=by have:=(aa.1 h1).1;have e:(bh t.disp t.bg).length=52:=rfl;omega
  unfold C9 Nr;rw[cK,bC,an (by have:=Bc.len (b:=ftB t) (bu _ _);omega)];simpa[Bc.arr]using this
 go_wp2_with (refine aX 63 rfl ?_)
 refine⟨bY rfl 63 _ rfl g 3 rfl (db (bh t.disp t.bg)) _ io Tryz.underlying63 rfl (dG (bu _ _)) ?_⟩;simp only[Act.put,zA,zB,zC];go_wp2_with (refine aX 63 rfl ?_)
 refine⟨dK (db (bh t.disp t.bg)) rfl rfl rfl rfl (aE.new _ _ _) (by kernel_rfl) (dG (bu _ _)) (by rw[jD];intro x hx;obtain⟨y,hy,rfl⟩:=List.mem_map.1 (show x∈(bh t.disp t.bg).map dV by simpa[db]using hx);exact(Cf (F:=F) (w:=w6) (List.all_eq_true.1 (bu t.disp t.bg).p y hy)).one) ?_⟩;intro O o ip;simp only[Act.put,zA,zB,zC];have G:=((Below.refl _ _).alloc (ae _) _).trans (ip.below (Nat.le_refl _));have P:=E.below G;have a:=D.below G D.lt;have W:=V.trans (BX.of (G.mono (by omega)));have hz7:=W.size;have i8:=H1.trans (nh.of G);obtain⟨S,hS⟩:=iG w6.heap.size;rw[<-hS]at o In UV|-;replace hS:=aU hS;clear ip G E D V io;have WF:O.cell? (S,42)=false:=o.cell 42;have WP:O.cell? (S,37)=some (.int .u32 4278190335):=(o.cell 37).trans (by rw[<-r];rfl);replace r:=aU r;go_upto_region 4 with fail
 refine a8 ?_;refine dW (S:=fun Z:World=>Z.cell? (g,1)=t.node/\Z.cell? (g,57)=t.rc.x/\Z.cell? (g,58)=t.rc.y/\Z.cell? (g,59)=t.rc.w/\Z.cell? (g,60)=some (.int .i64 t.rc.h)/\Z.cell? (S,37)=some (.int .u32 4278190335)/\Z.cell? (g,67)=false/\Z.cell? (g,68)=zQ/\Z.cell? (g,69)=zQ/\Z.cell? (g,70)=zQ/\Z.cell? (g,71)=zQ) 999 [1,1,1,1,1,1,1,1,1,1,1,1,1,1,1,1,1,1,1,1,1,1,1,0] (by kernel_rfl) (fun _ _ _ _ _ h=>h) (⟨a.drew.cell 1,a.drew.cell 57,a.drew.cell 58,a.drew.cell 59,a.drew.cell 60,(o.drew.cell 37).trans (by rw[<-r.out];rfl),a.drew.cell 67,a.drew.cell 68,a.drew.cell 69,a.drew.cell 70,a.drew.cell 71⟩) (fun a5=>?_);simp only[osq,fL,aF,ap];iterate 14 (apply cU;rfl;(intro w Q;go_simp;try(with_reducible rfl));simp only[Act.put,zA,zB,zC])
 (refine gT (v:=.agg (vg 1 t.node t.rc 4278190335 eQ 0).toArray) (Or.inl ⟨rfl,fun w _=>by kernel_rfl⟩) ?_;simp only[Act.put,zA,zB,zC])
 iterate 8 (apply cU;rfl;(intro w Q;go_simp;try(with_reducible rfl));simp only[Act.put,zA,zB,zC])
 refine cC rfl rfl (fun K s=>?_);go_simp
 refine(Nv (P.below (Below.refl O O).drew) (show B<=O.heap.size by omega) (by omega) 1 t.node t.rc 4278190335 eQ 0 qr rg).mono ?_;rintro e w8 ⟨rfl,q,J,jp⟩;have c:=q.dJ a.drew n6 am;have lw:=J S _ 63 (by decide) (by decide) (by decide) o.drew;simp only[Act.put,zA,zB,zC];refine s.out _ _ (⟨c.cell 1,c.cell 57,c.cell 58,c.cell 59,c.cell 60,(lw.cell 37).trans (by rw[<-r.out];rfl),c.cell 67,c.cell 68,c.cell 69,c.cell 70,c.cell 71⟩) (fun _=>?_);clear s K;refine fA (a7 ?_);replace q:=(W.trans (BX.of (Below.refl B O).drew)).trans q;have mp:=jp;replace J:=(i8.trans (nh.of (Below.refl O O).drew)).trans J;clear o W P a i8 jp;clear WF WP;have hkw:=q.gk hk hF.out;have hbo:=Nw pm hkw;have hq4:=aba;go_upto_region 5 with fail
 go_wp2_with (first|refine dg 63 _ rfl rfl ?_)
 refine⟨eu rfl rfl rfl lw Tryz.underlying63 rfl (dG (bu _ _)) ?_⟩;simp only[Act.put,zA,zB,zC];go_wp2_with (go_at_call 195;go_loud (refine hbo.mono ?_;rintro e w9 ⟨rfl,X⟩))
 exact cP (cL rfl _ _ _) rfl ⟨rfl,q.trans (BX.of (X.mono (by have:=q.size;omega))),J.trans (nh.of X),mp.below X⟩
end
section
attribute[local instance] dZ
def wdV(n:Nat):ByteArray:=⟨((List.replicate n (Sb.c 119)).map VF).toArray⟩
def gyI(y:Gy):List Value:=vg 3 y.node y.r 255 (wdV y.n) 1024
def vj(l:List Gy):List Value:=l.flatMap gyI
def Nx(y:Gy):(gyV y).length=58:=rfl
def Ny{a:List Value}(h:a.length=58):(Tryz.prog.info? 359).map (·.size)=some a.toArray.size:=by
 rw[bj,h];kernel_rfl
def Xh(y:Gy):∀v∈gyV y,v.oneCell'=true:=by
 intro v a;obtain⟨d,b,rfl⟩:=List.mem_map.1 a;exact(Cf (F:=fun _=>0) (w:=default) (aQ.1 (Ts y) d b)).one
def AN{l:Nat}{v:List Value}{t:dO}(V:∀b,0<F b->b<B/\b≠l)(hp:im w B l n v m)(io:B<=w.heap.size)(hn:n+t.runs.length<=5000)(W:aE w g 267 (C9 t rv kd kv))(ip:g<B)(z:RD F w (uX t.runs) rv)
 (X:∀y∈t.runs,0<y.r.w/\0<y.r.h):
 Calls tp 242 #[pt l,pt g] w fun e T=>e=rQ/\BX l B w T/\nh w T/\im T B l (n+t.runs.length) (v++vj t.runs) m:=by
 obtain⟨A,c,rfl,-⟩:=Nt z;replace V:=aU V;replace X:=aU X;have p:=I3 W;simp only[Qi]at p;go_enter Tryz.func242,Tryz.ntmps242
 go_upto_region 1 with(go_at_call 157;go_loud (refine p.mono ?_;rintro e C ⟨rfl,q⟩))
 have Y:=q.size;have d:Below w w (C.alloc (.cells #[zQ,zQ,zQ,zQ] 35)):=q.alloc Y _;have D:aE (C.alloc (.cells #[zQ,zQ,zQ,zQ] 35)) C 35 #[zQ,zQ,zQ,zQ]:=aE.new _ _ _;have E:=W.below d W.lt;have G:=hp.below d;have H:=nh.of d;have I:BX l B w _:=BX.of (d.mono (by omega));clear q p d;generalize C.alloc (.cells #[zQ,zQ,zQ,zQ] 35)=w4 at*;generalize C.heap.size=gz at*;have Z:w4.cell? (g,65)=some (.slice A t.runs.length c):=E.cell 65;go_wp2_with fail
 go_loopw [19] (fun am wr=>∃i:Nat,i<=t.runs.length/\am=i/\aE wr gz 35 #[zQ,zQ,zQ,zQ]/\BX l B w wr/\nh w wr/\im wr B l (n+i) (v++vj (t.runs.take i)) m) (fun s _=>t.runs.length-(intOf s).toNat)
 case atStart=>exact⟨0,aM _,rfl,D,I,H,by simpa[vj]using G⟩
 case round=>
  clear D I H G E Z;obtain⟨i,hi,rfl,hZ,U,hT,hP⟩:=hrel;by_cases u:i<t.runs.length
  .have a5:=lJ i t.runs.length (by omega);have J:=z.move (w':=wr) (F':=F) (U.kept V.out) (pi t);obtain⟨A',c',K,hgt⟩:=Nt J;obtain⟨b0,L,rfl,i8,jp,M⟩:=hgt (fun e=>by rw[e]at u;simp at u);injection K with q1 q2 q3;subst q1 q3;clear q2;obtain⟨y,N⟩:∃y,t.runs[i]? =some y:=⟨_,List.getElem?_eq_getElem u⟩;obtain⟨a9,em⟩:=X.out y (List.mem_of_getElem? N);have O:=M i y N;have o:wr.rangeAt b0 (L+i*58) (gyV y).toArray.toList:=by simpa using O
   replace M:=trivial;replace hgt:=trivial;replace K:=trivial;replace O:=trivial;replace N:=aU N;replace J:=trivial;have lw:=U.size;go_wp2_with (refine aX 359 rfl ?_)
   refine⟨bY rfl 359 _ rfl b0 (L+i*58) rfl (gyV y).toArray _ o Tryz.underlying359 rfl (Ny (Nx y)) ?_⟩;go_wp2_with (refine aX 359 rfl ?_)
   refine⟨dK (gyV y).toArray rfl rfl rfl rfl (aE.new _ _ _) (by kernel_rfl) (Ny (Nx y)) (kF (Xh y)) ?_⟩;intro k a P;have f:=((Below.refl _ _).alloc (ae _) _).trans (P.below (Nat.le_refl _));have eq:=hP.below f;have j:=hZ.below f hZ.lt;have Q:=U.trans (BX.of (f.mono (by omega)));have mp:=Q.size;have ge:=hT.trans (nh.of f);obtain⟨S,hS⟩:=iG wr.heap.size;rw[<-hS]at a|-;replace hS:=aU hS;clear P f o;have k0:k.cell? S=y.node:=a.cell 0;have k1:k.cell? (S,1)=(wdV y.n):=a.cell 1;have k2:k.cell? (S,2)=y.r.x:=a.cell 2;have k3:k.cell? (S,3)=y.r.y:=a.cell 3;have k4:k.cell? (S,4)=y.r.w:=a.cell 4;have k5:k.cell? (S,5)=y.r.h:=a.cell 5;have n6:k.cell? (S,42)=some (.int .u32 255):=a.cell 42;have pm:k.cell? (S,44)=(1024:Int):=a.cell 44;have qr:k.cell? (S,48)=false:=a.cell 48;have z0:=j.cell 0;have z1:=j.cell 1;have z2:=j.cell 2;have z3:=j.cell 3;have hit:=Nv eq (by omega) (by omega) 3 y.node y.r 255 (wdV y.n) 1024 a9 em;simp only[vg]at hit;go_wp2_with (go_at_call 238;go_loud (refine hit.mono ?_;rintro e w6 ⟨rfl,g7,R,g8⟩))
   go_roundw
   case rel=>
    refine⟨i+1,by omega,by go_num,R gz _ 35 (by decide) (by decide) (by decide) j,Q.trans g7,ge.trans R,?_⟩;have e:v++vj (t.runs.take (i+1))=v++vj (t.runs.take i)++gyI y:=by
     unfold vj;rw[bJ,N.out,List.flatMap_append,bC];simp
    rw[e,<-Nat.add_assoc];exact g8
   case measure=>simp[intOf];omega
  .have a5:=Di i t.runs.length (by omega);have ii:i=t.runs.length:=by omega
   subst ii;rw[bL]at hP;go_wp2_with fail
   exact cP (cL rfl _ _ _) rfl ⟨rfl,U,hT,hP⟩
end
section
attribute[local instance] dZ
def Xi(f:Value)(w:World):Calls tp 294 #[zn,zQ,zQ,f] w fun e a=>e=rQ/\w=a:=by
 go_enter Tryz.func294,Tryz.ntmps294
 go_wp2_with fail
 go_loopw [8] (fun s wr=>s=zJ/\wr=w) (fun _ _=>0)
 case atStart=>exact⟨rfl,rfl⟩
 case round=>
  obtain⟨rfl,rfl⟩:=hrel;go_wp2_with fail
  exact cP (cL rfl _ _ _) rfl ⟨rfl,rfl⟩
def TM(f:Value)(w:World):Calls tp 235 #[zn,zQ,f] w fun e a=>e=rQ/\w=a:=by
 have b:=Xi f w;go_enter Tryz.func235,Tryz.ntmps235
 go_wp2_with fail
 go_loopw [7,8] (fun c s wr=>c=zQ/\s=(20:Int)/\wr=w) (fun _ _ _=>0)
 case atStart=>exact⟨rfl,rfl,rfl⟩
 case round=>
  obtain⟨rfl,rfl,rfl⟩:=hrel;go_wp2_with (go_at_call 294;go_loud (refine b.mono ?_;rintro e g ⟨rfl,rfl⟩))
  go_loopw [6] (fun s d=>s=(20:Int)/\d=wr) (fun _ _=>0)
  case atStart=>exact⟨rfl,rfl⟩
  case round=>
   obtain⟨rfl,rfl⟩:=hrel;go_wp2_with fail
   exact cP (cL rfl _ _ _) rfl ⟨rfl,rfl⟩
def TN(f:Value)(w:World):Calls tp 149 #[zn,f] w fun e a=>e=rQ/\w=a:=by
 have b:=TM f w;go_enter Tryz.func149,Tryz.ntmps149
 go_wp2_with (go_at_call 235;go_loud (refine b.mono ?_;rintro e c ⟨rfl,rfl⟩))
 exact cP (cL rfl _ _ _) rfl ⟨rfl,rfl⟩
def wH(t:dO):List Value:=if t.bg=0 then[]else vg 1 t.node t.rc 4278190335 eQ 0
def wI(t:dO):Nat:=if t.bg=0 then 0 else 1
def runN(l:List dO):Nat:=(l.map fun t=>t.runs.length).sum
def vo(l:List dO):List Value:=l.flatMap wH
def mT(l:List dO):Nat:=(l.map wI).sum
def xj(l:List dO):List Value:=l.flatMap fun t=>vj t.runs
structure xF(t:dO):Prop where
 p:Plain t.disp t.bg
 r:t.bg=0\/(0<t.rc.w/\0<t.rc.h)
 y:∀y∈t.runs,0<y.r.w/\0<y.r.h
def TP{s:List Value}{t:dO}{D E G:Value}(u:Gk F w)(v:∀b,0<F b->b<B/\b≠d)(x:im w B d n s m)(f:B<=w.heap.size)(y:n<=5000)(z:m<=5000)(A:aE w g 267 (C9 t D E G))(i:g<B)(a:xF t):
 Calls tp 155 #[pt d,pt g] w fun e j=>e=rQ/\BX d B w j/\nh w j/\im j B d (n+wI t) (s++wH t) (m+1):=by
 by_cases c:t.bg=0
 .refine(Lw u v x f y z A i a.p c).mono ?_;rintro e j ⟨rfl,k,l,o⟩;refine⟨rfl,k,l,?_⟩;unfold wI wH;rw[aS c,if_pos c,List.append_nil];exact o
 .have q:t.bg=4278190335:=by
   rcases a.p with h|h|h|h
   .exact absurd h.2 c
   .exact absurd h.2 c
   .exact absurd h.2 c
   .exact h.2
  have C:=a.r.resolve_left c;refine(Lx u v x f y z A i a.p q C.1 C.2).mono ?_;rintro e j ⟨rfl,k,l,o⟩;refine⟨rfl,k,l,?_⟩;unfold wI wH;rw[aI c,if_neg c];exact o
def qY:∀(l:List Nat) (i:Nat),(l.take i).sum<=l.sum
 |[],i=>by simp
 |x::l,0=>by simp
 |x::l,i+1=>by
  have:=qY l i;simp only[lh,lI];omega
def AO:∀(l:List dO),mT l<=l.length
 |[]=>by simp[mT]
 |t::l=>by
  have:=AO l;have a:wI t<=1:=by unfold wI;split<;>omega
  simp only[mT,bV,lI,aW]at*;omega
def ml{α:Type}{l:List α}{x:α}(h:l[i]? =some x):l.take (i+1)=l.take i++[x]:=by rw[bJ,h];rfl
def Xj{l:List dO}{t:dO}(h:l[i]? =some t):runN (l.take i)+t.runs.length<=runN l:=by
 have a:=qY (l.map fun t=>t.runs.length) (i+1);rw[<-Dh,ml h,List.map_append,xt]at a;unfold runN;simpa using a
def P1{t:dO}(hd:PX d t){u lo hi:Nat}{p:Value}(hk:Gk F w)(r:∀b,0<F b->b<B/\b≠u)(hp:im w B u n xs m)(ww:B<=w.heap.size)(E:lH F w d lo hi p t)(hh:hi<=B)(Do:u<lo)
 (jp:xF t)(l:∀k∈t.desc,xF k)(hn:n+t.desc.length+t.runs.length+runN t.desc<=5000)(hm:m+t.desc.length<=5000):
 Calls tp 156 #[pt u,p] w fun e w'=>e=rQ/\BX u B w w'/\im w' B u (n+mT t.desc+t.runs.length+runN t.desc) (xs++vo t.desc++vj t.runs++xj t.desc) (m+t.desc.length):=by
 have H1:=hp.lt;have lw:∀b,0<F b->b<w.heap.size:=fun b hb=>hk.lt hb;have L:=PZ hd E lw (by omega) (by omega);obtain⟨g,rfl,-,In⟩:=E.ptr;replace r:=aU r;replace l:=aU l;go_enter Tryz.func156,Tryz.ntmps156
 go_upto_region 1 with(go_at_call 146;go_loud (refine L.mono ?_;rintro e Z ⟨ov,o,rfl,v,x,hN⟩;obtain⟨Af,cf,rfl,-⟩:=aV x))
 have c:=hN.1;have z:BX u B w Z:=BX.of (v.mono (by omega));have Q:=hp.below v;have mp:=z.gk hk r.out;have G:=hN.below (v.mono (by omega)) (z.kept r.out);have M:=E.keep (z.kept r.out) (fun b b1 b2=>z.block b (by omega) (by omega));have UV:=v.size;generalize am:w.heap.size=WS at*;clear L hN v E hk hp;have N:=aU Q;replace G:=aU G;replace am:=aU am;have WF:o.length<=5000:=by omega
 replace c:=aU c;go_wp2_with fail
 go_loopw [15] (fun n6 wr=>∃i:Nat,i<=o.length/\n6=i/\BX u B Z wr/\nh Z wr/\im wr B u (n+mT (t.desc.take i)) (xs++vo (t.desc.take i)) (m+i)) (fun s _=>o.length-(intOf s).toNat)
 case atStart=>exact⟨0,aM _,rfl,BX.of (Below.refl _ _),nh.refl _,by simpa[mT,vo]using Q⟩
 case round=>
  clear Q;obtain⟨i,pm,rfl,f,R,O⟩:=hrel;by_cases A:i<o.length
  .have S:=lJ i o.length (by omega);obtain⟨q,hq⟩:∃q,o[i]? =some q:=⟨_,List.getElem?_eq_getElem A⟩;obtain⟨k,a⟩:∃k,t.desc[i]? =some k:=⟨_,List.getElem?_eq_getElem (by rw[<-c.out];exact A)⟩;obtain⟨gq,rq,dq,vq,rfl,q1,P,q2⟩:=G.out.2 i q k hq a;obtain⟨H,cr,hA,-,-,-⟩:=dL x (by omega);injection hA with T U e3;subst T;clear U e3;have V:=R.own (by decide) (by decide) (by decide) x;have cq:wr.cell? (H,i)=pt gq:=by
    have:=V.cells (g:=H) rfl i _ hq;have C:(H:Addr).add i=(H,i):=by cases i<;>simp[Addr.add]
    rwa[C]at this
   have W:=f.dJ P (by omega) (N.out.ne P (by decide));have h:=AO (t.desc.take i);rw[aN]at h;have qr:=f.gk mp r.out;have D:=l.out k (List.mem_of_getElem? a);have X:=TP qr r.out O (by have:=f.size;omega) (by omega) (by have:=c.out;omega) W (by omega) D;replace a:=aU a;replace hq:=aU hq;replace h:=aU h;go_wp2_with (go_at_call 155;go_loud (refine X.mono ?_;rintro e w2 ⟨rfl,j,I,J⟩))
   go_roundw
   case rel=>
    refine⟨i+1,by omega,by go_num,f.trans j,R.trans I,?_⟩;rw[ml a.out];have T:mT (t.desc.take i++[k])=mT (t.desc.take i)+wI k:=by simp[mT]
    have U:vo (t.desc.take i++[k])=vo (t.desc.take i)++wH k:=by simp[vo]
    rw[T,U,<-List.append_assoc,<-cZ,<-cZ];exact J
   case measure=>simp[intOf];omega
  .have Y:i=o.length:=by omega
   have S:=decide_eq_false (by omega);subst Y;rw[c.out,List.take_length]at O;have a5:=M.keep (f.kept r.out) (fun b b1 b2=>f.block b (by omega) (by omega));have a9:=I6 hd a5 (fun b hb=>by have:=(r.out b hb).1;have:=f.size;omega) (by have:=f.size;omega);go_upto_region 7 with(go_at_call 146;go_loud (refine a9.mono ?_;rintro e w2 ⟨rfl,K⟩))
   have j:=f.trans (BX.of (K.mono (by have:=f.size;omega)));have I:=R.trans (nh.of K);have J:=O.below K;clear f R O a5 a9 K;go_loopw [26] (fun rg wx=>rg=zQ/\wx=w2) (fun _ _=>0)
   case atStart=>exact⟨rfl,rfl⟩
   case round=>
    obtain⟨rfl,rfl⟩:=hrel;have em:=M.keep (j.kept r.out) (fun b b1 b2=>j.block b (by omega) (by omega));obtain⟨g',rv,kd,kv,C,g1,P,eq⟩:=em.node;injection C with C;injection C with C;injection C with C;subst C;have h:=AO t.desc;have ge:=AN r.out J (by have:=j.size;omega) (by omega) P (by omega) eq jp.y;replace h:=aU h;go_upto_region 13 with(go_at_call 242;go_loud (refine ge.mono ?_;rintro e w3 ⟨rfl,g7,g8,ii⟩))
    have io:=j.trans g7;have ip:=I.trans g8;clear j I J em P eq ge g7 g8;go_wp2_with fail
    go_loopw [42] (fun un wx=>∃i:Nat,i<=o.length/\un=i/\BX u B Z wx/\nh Z wx/\im wx B u (n+mT t.desc+t.runs.length+runN (t.desc.take i)) (xs++vo t.desc++vj t.runs++xj (t.desc.take i)) (m+o.length)) (fun s _=>o.length-(intOf s).toNat)
    case atStart=>exact⟨0,aM _,rfl,io,ip,by rw[c.out];simpa[runN,xj]using ii⟩
    case round=>
     clear ii io ip;obtain⟨i,pm,rfl,f,R,O⟩:=hrel;by_cases A:i<o.length
     .have S:=lJ i o.length (by omega);obtain⟨q,hq⟩:∃q,o[i]? =some q:=⟨_,List.getElem?_eq_getElem A⟩;obtain⟨k,a⟩:∃k,t.desc[i]? =some k:=⟨_,List.getElem?_eq_getElem (by rw[<-c.out];exact A)⟩;obtain⟨gq,rq,dq,vq,rfl,q1,P,q2⟩:=G.out.2 i q k hq a;obtain⟨H,cr,hA,-,-,-⟩:=dL x (by omega);injection hA with T U e3;subst T;clear U e3;have V:=R.own (by decide) (by decide) (by decide) x;have cq:wr.cell? (H,i)=pt gq:=by
       have:=V.cells (g:=H) rfl i _ hq;have C:(H:Addr).add i=(H,i):=by cases i<;>simp[Addr.add]
       rwa[C]at this
      have W:=f.dJ P (by omega) (N.out.ne P (by decide));have i8:=Xj a;have D:=l.out k (List.mem_of_getElem? a);have X:=AN r.out O (by have:=f.size;omega) (by have:=h.out;omega) W (by omega) (q2.move (f.kept r.out) (pi k)) D.y;replace a:=aU a;replace hq:=aU hq;replace i8:=aU i8;go_wp2_with (go_at_call 242;go_loud (refine X.mono ?_;rintro e w4 ⟨rfl,ut,wl,wn⟩))
      go_roundw
      case rel=>
       refine⟨i+1,by omega,by go_num,f.trans ut,R.trans wl,?_⟩;rw[ml a.out];have T:runN (t.desc.take i++[k])=runN (t.desc.take i)+k.runs.length:=by simp[runN]
       have U:xj (t.desc.take i++[k])=xj (t.desc.take i)++vj k.runs:=by simp[xj]
       rw[T,U,<-List.append_assoc,<-cZ];exact wn
      case measure=>simp[intOf];omega
     .have Y:i=o.length:=by omega
      have S:=decide_eq_false (by omega);subst Y;rw[c.out,List.take_length]at O;go_wp2_with fail
      exact cP (cL rfl _ _ _) rfl ⟨rfl,z.trans f,O⟩
end
section
attribute[local instance] dZ
def xl(t:dO):List Value:=wH t++vo t.desc++vj t.runs++xj t.desc
def AP(t:dO):Nat:=wI t+mT t.desc+t.runs.length+runN t.desc
def TQ{t:dO}(K:PX d t){gp L M:Nat}{p:Value}(N:Gk F w)(h:∀b,0<F b->b<B/\b≠gp)(P:im w B gp 0 [] 0)(Q:B<=w.heap.size)(j:lH F w d L M p t)(R:M<=B)(x:gp<L)
 (n:xF t)(a:∀k∈t.desc,xF k)(hn:t.desc.length+t.runs.length+runN t.desc<=4000):
 Calls tp 57 #[pt gp,p] w fun e O=>e=rQ/\BX gp B w O/\∃m,im O B gp (AP t) (xl t) m:=by
 have y:=Lv K j (fun b S=>N.lt S) (by omega);have z:=TN (.func (.func 150) #[] #[]);obtain⟨g,rfl,-,T⟩:=j.ptr;replace h:=aU h;replace a:=aU a;go_enter Tryz.func57,Tryz.ntmps57
 go_upto_region 1 with(go_at_call 146;go_loud (refine y.mono ?_;rintro e U ⟨rfl,o⟩))
 have c:BX gp B w U:=BX.of (o.mono (by omega));have V:=c.size;have A:=P.below o;have q:=c.gk N h.out;have i:=j.keep (c.kept h.out) (fun b W X=>c.block b (by omega) (by omega));obtain⟨g',rv,kd,kv,l,g1,Y,Z⟩:=i.node;injection l with l;injection l with l;injection l with l;subst l;have r:=TP q h.out A (by omega) (by omega) (by omega) Y (by omega) n;go_upto_region 3 with(first|(go_at_call 149;go_loud (refine(z _).mono ?_;rintro e wz ⟨rfl,rfl⟩))|(go_at_call 155;go_loud (refine r.mono ?_;rintro e w2 ⟨rfl,f,am,C⟩)))
 have s:=c.trans f;have D:=f.gk q h.out;have u:=i.keep (f.kept h.out) (fun b W X=>f.block b (by omega) (by omega));have a5:wI t<=1:=by unfold wI;split<;>omega
 have v:=P1 K D h.out C (by have:=s.size;omega) u R x n a.out (by omega) (by omega);go_wp2_with fail
 go_loopw [18] (fun E G=>E=zQ/\G=w2) (fun _ _=>0)
 case atStart=>exact⟨rfl,rfl⟩
 case round=>
  obtain⟨rfl,rfl⟩:=hrel;go_wp2_with (go_at_call 156;go_loud (refine v.mono ?_;rintro e w3 ⟨rfl,H,I⟩))
  go_loopw [34] (fun J G=>J=zQ/\G=w3) (fun _ _=>0)
  case atStart=>exact⟨rfl,rfl⟩
  case round=>
   obtain⟨rfl,rfl⟩:=hrel;go_wp2_with fail
   refine cP (cL rfl _ _ _) rfl ⟨rfl,s.trans H,0+1+t.desc.length,?_⟩;unfold AP xl;have e1:0+wI t+mT t.desc+t.runs.length+runN t.desc=wI t+mT t.desc+t.runs.length+runN t.desc:=by omega
   rw[<-e1];simpa using I
def BX.below{S:Nat}{a b:World}(h:BX j B a b)(A:S<=B)(C:S<=j):Below S a b:=⟨h.os,h.tape,h.output,h.size,fun k D=>h.block k (by omega) (by omega)⟩
def Ly{t:dO}(E:PX d t){u:List Value}(l:Gk F w)(n:RA F w (tJ t) u)
 (v:xF t)(c:∀k∈t.desc,xF k)(J:t.desc.length+t.runs.length+runN t.desc<=4000):
 Calls tp 27 #[.agg u.toArray] w fun e i=>∃x m,e=.returned (.pointer (some ⟨x,0,none⟩))/\Below w w i/\im i w x (AP t) (xl t) m:=by
 have f:=fun(i:World) (a:Below w w i)=>I5 (F:=F) d t E i u (l.below a (fun b a=>l.lt a)) (n.move (Kept.below a (fun b a=>l.lt a)) (qX t));have g:=fun(i:World) (a:Below w w i)=>l.below a (fun b a=>l.lt a);have h:∀b,0<F b->b<w.heap.size:=fun b a=>l.lt a;obtain⟨K,L,rfl,G,H,-,-⟩:=AF n;replace f:=aU f;replace g:=aU g;replace h:=aU h;replace c:=aU c;go_enter Tryz.func27,Tryz.ntmps27
 go_upto_region 2 with fail
 refine bM (fun Z=>aE Z w 70 (Nr t K L).toArray/\aE Z (w.heap.size+1) 85 #[zn,zn]/\Below w w Z) ⟨(aE.new _ _ _).alloc _,aE.newAt _ _ _ (by simp),((Below.refl _ _).alloc (ae _) _).alloc (by simp) _⟩ ?_;rintro M ⟨I,q,y⟩;have N:=f.out M y;obtain⟨S,r⟩:=iG w.heap.size;rw[<-r]at I q y f g h|-;replace r:=aU r;have O:=q.lt;go_wp2_with (refine dg 70 _ rfl rfl ?_)
 refine⟨eu rfl rfl rfl I Tryz.underlying70 rfl (lb (Fc _ _ _)) ?_⟩;go_wp2_with (first|(go_at_call 58;go_loud (refine N.mono ?_;rintro e s ⟨p,rfl,j,z⟩;have o:=y.trans (j.mono (by omega));have A:=q.below j q.lt;have P:=j.size;have C:=TQ (B:=s.heap.size) (gp:=S+1) E (g.out s o) (fun b a=>by have:=h.out b a;omega) ⟨_,_,[],A,dl _ _ _ _,dl _ _ _ _⟩ (ae _) z (Nat.le_refl _) (by omega) v c.out J))|(go_at_call 57;go_loud (refine C.mono ?_;rintro e X ⟨rfl,D,m,Q,R,T,U,V,W⟩)))
 go_ret
 rw[<-r.out];exact⟨S+1,m,rfl,o.trans (D.below (by omega) (by omega)),Q,R,T,U,eW V (show S<=s.heap.size by omega),eW W (show S<=s.heap.size by omega)⟩
def P2{t:dO}(y:PX d t){q:List Value}(j:Gk F w)(f:RA F w (tJ t) q)
 (l:xF t)(g:∀k∈t.desc,xF k)(z:t.desc.length+t.runs.length+runN t.desc<=4000):
 Calls tp 20 #[.agg q.toArray] w fun e h=>∃v,e=.returned v/\Below w w h/\h.ownsRow w 38 14 v (AP t) (xl t):=by
 have a:=fun(h:World) (c:Below w w h)=>Ly (F:=F) y (j.below c (fun b c=>j.lt c)) (f.move (Kept.below c (fun b c=>j.lt c)) (qX t)) l g z;obtain⟨A,B,rfl,r,s,-,-⟩:=AF f;replace a:=aU a;go_enter Tryz.func20,Tryz.ntmps20
 go_upto_region 1 with fail
 refine bM (fun Z=>aE Z w 70 (Nr t A B).toArray/\Below w w Z) ⟨aE.new _ _ _,(Below.refl _ _).alloc (ae _) _⟩ ?_;rintro u ⟨n,o⟩;have C:=a.out u o;obtain⟨S,i⟩:=iG w.heap.size;rw[<-i]at n o a|-;replace i:=aU i;have D:=n.lt;go_wp2_with (refine dg 70 _ rfl rfl ?_)
 refine⟨eu rfl rfl rfl n Tryz.underlying70 rfl (lb (Fc _ _ _)) ?_⟩;go_wp2_with (go_at_call 27;go_loud (refine C.mono ?_;rintro e E ⟨G,m,rfl,p,H,J,K,I,x,L⟩;have M:E.cell? G=some H:=I.cell 0;obtain⟨N,ci,rfl,-⟩:=aV x))
 go_ret
 rw[<-i.out];exact⟨_,rfl,o.trans (p.mono (by omega)),eW x (show S<=u.heap.size by omega)⟩
