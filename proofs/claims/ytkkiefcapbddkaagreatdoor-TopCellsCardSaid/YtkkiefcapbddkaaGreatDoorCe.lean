/- part of topCells.proved -/
import Derived.Test.YtkkiefcapbddkaaGreatDoorKd
set_option linter.all false
set_option maxRecDepth 1000000
set_option maxHeartbeats 0
noncomputable section
namespace Go.Proofs.YtkkiefcapbddkaaGreatDoor
open Go.RowKit Mem ep Num Ord
variable{B g:Nat}{v:Value}{w:World}
namespace ep
inductive Pt where
 |mk(name text:ByteArray)(kids:List Pt)
def Pt.name:Pt->ByteArray|.mk n _ _=>n
def Pt.text:Pt->ByteArray|.mk _ t _=>t
def YZ(p:Pt)(a:Value):List Value:=[p.name,p.text,zn,a]
inductive Br(w:World)(B:Nat):Pt->Value->Prop
 |mk (name text) (kids:List Pt) (A:Option Addr) (c:Nat) (kv:Nat->Value) (hA:kids≠[]->∃b off,A=some ⟨b,off,none⟩/\b<B/\∀(i:Nat) k,kids[i]? =some k->w.rangeAt b (off+i*4) (YZ k (kv i)))
  (ht:name.toList.isEmpty=true->kids=[]) (hk:∀(i:Nat) k,kids[i]? =some k->Br w B k (kv i)):Br w B (.mk name text kids) (.slice A kids.length c)
def xA(L:List Nd)(i:Nat)(f:Nd->Nd):List Nd:=L.set i (f (L.getD i lp))
def iE(L:List Nd)(i:Nat)(f:Nd->Nd):(xA L i f).length=L.length:=by simp[xA]
def Nd.HJ(k:Int)(x:Nd):Nd:={x with fst:=k}
def Nd.VY(k:Int)(x:Nd):Nd:={x with lst:=k}
def Nd.HO(k:Int)(x:Nd):Nd:={x with nxt:=k}
mutual
def eU(c a:Int):Pt->List Nd->List Nd
 |.mk name text b,L=>
  if name.toList.isEmpty then L++[⟨2,name,text,c,-1,-1,a,-1⟩]else
   xA (sk L.length b (L++[⟨1,name,eQ,c,-1,-1,a,-1⟩],-1)).1 L.length (Nd.VY (sk L.length b (L++[⟨1,name,eQ,c,-1,-1,a,-1⟩],-1)).2)
def sk(n:Nat):List Pt->List Nd×Int->List Nd×Int
 |[],s=>s
 |k::r,s=>sk n r (if s.2= -1 then xA (eU n s.2 k s.1) n (Nd.HJ s.1.length)else xA (eU n s.2 k s.1) s.2.toNat (Nd.HO s.1.length),s.1.length)
end
mutual
def uv(b a:Int):∀(p:Pt) (L:List Nd),L.length<(eU b a p L).length
 |.mk name text c,L=>by
  unfold eU;split
  .simp
  .rw[iE];have:=qK L.length c (L++[⟨1,name,eQ,b,-1,-1,a,-1⟩],-1);simp only[aO,aW,eJ]at this;omega
def qK(n:Nat):∀(l:List Pt) (s:List Nd×Int),s.1.length+l.length<=(sk n l s).1.length
 |[],s=>by unfold sk;simp
 |k::r,s=>by
  unfold sk;have a:=uv n s.2 k s.1;refine ba ?_ (qK n r _);split<;>simp only[iE,aW]<;>omega
end
def Br.under{E:World}{p:Pt}(h:Br w B p v)(I:Below B w E):Br E B p v:=by
 induction h with
 |mk name text C A c J L M S ih=>
  refine .mk name text C A c J (fun N=>?_) M ih;obtain⟨b,D,O,H,P⟩:=L N;exact⟨b,D,O,H,fun i k Q j v R=>(I.cell H).trans (P i k Q j v R)⟩
def Br.one{p:Pt}(h:Br w B p v):v.oneCell'=true:=by cases h;rfl
def R3(L:List Nd):∀{k:Nat} {x y:Nd} {j:Nat} {v:Value},L[k]? =some x->j<9->y.cells=x.cells.set j v->(L.set k y).flatMap Nd.cells=(L.flatMap Nd.cells).set (k*9+j) v:=by
 induction L with
 |nil=>intro k x y j v h;simp at h
 |cons a L ih=>
  intro k x y j v h b c;cases k with
  |zero=>
   simp at h;subst h;simp only[rm,bR,ez,bc,c];rw[AX _ _ (by rw[th];exact b)]
  |succ k=>
   simp only[ef,bR];rw[ih (by simpa using h) b c,List.set_append_right _ _ (by rw[th];omega),th]
   congr 2
   omega
end ep
def gK{P:Program}{o:Oper}{a:Act}{w':World}{K:Act->World->Prop}{Q:Exit->Act->World->Prop}(h:(execOp a.eval o).run P w=.ok (.value v) w')(b:K (a.put o.dst v) w'):o.wp P a w K Q:=by
 unfold Oper.wp;rw[h];exact b
def HW{P:Program}{op:Oper}{a:Act}{K:Act->World->Prop}{Q:Exit->Act->World->Prop}(d:TypeId)(x y:Operand)(i:op.op=.store d x y)
 (b:Nat)(cells:Array Value)(k:a.eval x=pt b)(l:a.eval y=.agg cells)
 (t:TypeId)(c:Array Value)(e:aE w b t c)(m:c.size=cells.size)(n:(P.info? d).map (·.size)=some cells.size)(o:cells.all (·.oneCell')=true)
 (h:∀f,aE f b t cells->fp b w f->K (a.put op.dst undef) f):op.wp P a w K Q:=by
 have g:=oU b t cells.toList c.toList [] w (by simpa using e) (by simpa using m);refine abt d x y i b 0 cells k l ?_ n o (h _ (by simpa using g.1) (by simpa using g.2));intro j p;rw[bc,e.cell];exact⟨by rw[dE (by omega)];rfl,e.free j⟩
def rR(w:World):Calls tp 77 #[zn] w fun e a=>e=.returned zn/\w=a:=by
 have b:(binOp .eql 89 zn zn).run tp w=.ok true w:=by kernel_rfl
 go_enter Tryz.func77,Tryz.ntmps77
 go_wp2_with fail
 go_ret
 exact⟨rfl,rfl⟩
def ZN:Array Value:=#[zQ,eQ,eQ,zn,zQ,zQ,zQ,zQ,zQ]
def ED(gt a:Nat):Value:=.func (.func 76) #[] #[pt gt,pt a]
def R5:(Tryz.prog.info? 121).map (fun i=>(i.zero,i.size,i.bytes))=some (some (.agg ZN),9,104):=by kernel_rfl
def H0{L:List Nd}(x:Nd)(h:w.ownsRow B 121 9 v (L.length+1) (L.flatMap Nd.cells++x.cells)):w.ownsRow B 121 9 v (L++[x]).length ((L++[x]).flatMap Nd.cells):=by
 simpa[bW]using h
def EE{cap k:Nat}{M:List Nd}(f:Nd->Nd)(j:Nat)(v:Value)(a:k<M.length)(b:j<9)(c:∀x,(f x).cells=x.cells.set j v)(h:w.ownsRow B 121 9 (g,M.length,cap) M.length (M.flatMap Nd.cells)):
 (w.setCell (g,k*9+j) v).ownsRow B 121 9 (g,(xA M k f).length,cap) (xA M k f).length ((xA M k f).flatMap Nd.cells):=by
 have d:=h.stored (k*9+j) v;have e:=List.getElem?_eq_getElem a;have i:M.getD k lp=M[k]:=by simp[ah,a]
 rw[iE];unfold xA;rw[i,R3 M e b (c _)];exact d.1
def zy{cap k j:Nat}{M:List Nd}(a:k<M.length)(b:j<9)(h:w.ownsRow B 121 9 (g,M.length,cap) M.length (M.flatMap Nd.cells)):∃u,w.cell? (g,k*9+j)=some u:=by
 rw[h.cellAt (k*9+j) (by omega)];have c:=List.getElem?_eq_getElem a;have d:j<M[k].cells.length:=by rw[th];exact b
 exact⟨_,flat_get th c (List.getElem?_eq_getElem d)⟩
structure Kp(B g:Nat)(w w':World):Prop where
 os:w'.os=w.os
 tape:w'.tape=w.tape
 output:w'.output=w.output
 size:w.heap.size<=w'.heap.size
 iD:∀k,k<B->k≠g->w'.heap[k]? =w.heap[k]?
def Kp.refl(B g:Nat)(w:World):Kp B g w w:=⟨rfl,rfl,rfl,ae _,fun _ _ _=>rfl⟩
def Kp.trans{B g:Nat}{w j A:World}(x:Kp B g w j)(y:Below B j A):Kp B g w A:=
 ⟨y.os.trans x.os,y.tape.trans x.tape,y.output.trans x.output,Nat.le_trans x.size y.size,fun k C D=>(y.block k C).trans (x.iD k C D)⟩
def Kp.put{j A:World}(x:Kp B g w j)(y:fp g j A):Kp B g w A:=
 ⟨y.os.trans x.os,y.tape.trans x.tape,y.output.trans x.output,by rw[y.size];exact x.size,fun k D C=>(y.other k C).trans (x.iD k D C)⟩
def Kp.alloc{B g:Nat}{w j:World}(x:Kp B g w j)(h:B<=j.heap.size)(o:Obj):Kp B g w (j.alloc o):=x.trans ((Below.refl B j).alloc h o)
def Kp.cell{B g:Nat}{w j:World}(x:Kp B g w j){p:Addr}(h:p.block<B)(A:p.block≠g):j.cell? p=w.cell? p:=by
 simp only[World.cell?,x.iD p.block h A]
def R6(w0:World)(B0 B gt y:Nat)(h0:B0<=gt)(hgt:gt<B)(hgp:y<B)(hgg:y≠gt)(ip:B<=w0.heap.size){p:Pt}{kv:Value}(hp:Br w0 B0 p kv):∀(l d:Int) (L:List Nd) (v:Value) (w:World),Kp B gt w0 w->aE w gt 48 #[v]->aE w y 169 #[ED gt y]->
 w.ownsRow B 121 9 v L.length (L.flatMap Nd.cells)->(eU l d p L).length<=1000->
 Calls tp 76 #[.agg #[p.name,p.text,zn,kv],l,d,pt gt,pt y] w fun e w'=>
  e=L.length/\Kp B gt w0 w'/\∃v',aE w' gt 48 #[v']/\aE w' y 169 #[ED gt y]/\w'.ownsRow B 121 9 v' (eU l d p L).length ((eU l d p L).flatMap Nd.cells):=by
 induction hp with
 |mk name text a A c kv hA ht hk ih=>
  intro l d L v w hB U hP J hlen;simp only[Pt.name,Pt.text];have hX0:aE (w.alloc (.cells #[name,text,zn,.slice A a.length c] 103)) w 103 #[name,text,zn,.slice A a.length c]:=aE.new _ _ _;have hT0:=U.alloc (.cells #[name,text,zn,.slice A a.length c] 103);have hP0:=hP.alloc (.cells #[name,text,zn,.slice A a.length c] 103);have ho0:=J.alloc (.cells #[name,text,zn,.slice A a.length c] 103);have hBw:=Nat.le_trans ip hB.size;have hB0:=hB.alloc hBw (.cells #[name,text,zn,.slice A a.length c] 103);obtain⟨A1,q1,rfl,-⟩:=aV J;go_enter Tryz.func76,Tryz.ntmps76
  go_upto_region 1 with fail
  have hgx:gt<w.heap.size/\y<w.heap.size:=⟨U.lt,hP.lt⟩;refine bM (fun Z=>aE Z w 103 #[name,text,zn,.slice A a.length c]/\aE Z gt 48 #[.slice A1 L.length q1]/\aE Z y 169 #[ED gt y]/\Z.ownsRow B 121 9 (.slice A1 L.length q1) L.length (L.flatMap Nd.cells)/\Kp B gt w0 Z) ⟨hX0,hT0,hP0,ho0,hB0⟩ ?_;clear hX0 hT0 hP0 ho0 hB0 hB U hP J;rintro w2 ⟨hX,U,hP,J,hB⟩;generalize w.heap.size=gx at*;have c0:=U.cell 0;have hBw2:=Nat.le_trans ip hB.size;go_upto_region 2 with fail
  refine a8 ?_;refine dW (S:=fun Z:World=>Z.cell? gx=name/\Z.cell? (gx,2)=zn) 9 [1,1,1,1,1,1,1,1,0,0] (by kernel_rfl) (fun _ _ _ _ _ h=>h) (⟨hX.drew.cell 0,hX.drew.cell 2⟩) (fun hS0=>?_);simp only[osq,fL,aF,ap];iterate 4 (apply cU;rfl;(intro w i8;go_simp;try(with_reducible rfl));simp only[Act.put,zA,zB,zC])
  (refine Ci 77 #[zn] rfl (fun _ _=>by kernel_rfl) (fun w i8=>rR w) ?_;simp only[Act.put,zA,zB,zC])
  iterate 3 (apply cU;rfl;(intro w i8;go_simp;try(with_reducible rfl));simp only[Act.put,zA,zB,zC])
  refine cC rfl rfl (fun K hK=>?_);refine gK (v:=pt w2.drew.heap.size) (w':=(w2.drew.alloc (.cells ZN 121))) (by kernel_rfl) ?_;have N:=hX.drew.alloc (.cells ZN 121);have jp:=U.drew.alloc (.cells ZN 121);have lw:=hP.drew.alloc (.cells ZN 121);have mp:=(fS J).alloc (.cells ZN 121);have n6:=(hB.trans ((Below.refl B w2).drew)).alloc hBw2 (.cells ZN 121);have V:aE (w2.drew.alloc (.cells ZN 121)) w2.drew.heap.size 121 ZN:=aE.new _ _ _;have hgn:gx<w2.drew.heap.size/\gt<w2.drew.heap.size/\y<w2.drew.heap.size:=⟨hX.lt,U.lt,hP.lt⟩;generalize hgnn:w2.drew.heap.size=o at*;generalize (w2.drew.alloc (.cells ZN 121))=w3 at*;simp only[Act.put,zA,zB,zC];refine hK.out _ _ (⟨N.cell 0,N.cell 2⟩) (fun _=>?_);clear hK K;refine lW rfl rfl (fun K hK=>?_);refine HW 121 _ _ rfl o #[zJ,name,eQ,zn,l,zm,zm,d,zm] rfl rfl 121 ZN V rfl (by kernel_rfl) (by simp[Value.oneCell']) ?_;intro w4 hN hC;have z:=N.dA hC (by omega);have H:=jp.dA hC (by omega);have O:=lw.dA hC (by omega);have W:=aZ mp (fun g X pm=>hC.other g (by have:=(J.lt g X).2;have hq:w2.heap.size=o:=hgnn;omega));have I:=n6.trans (hC.below (by omega));have qr:∀g,(Value.slice A1 L.length q1).ownBlock=some g->g≠o:=fun g X=>by have:=(J.lt g X).2;have hq:w2.heap.size=o:=hgnn;omega
  simp only[Act.put,zA,zB,zC];refine hK.out _ _ ?_;clear hK K;refine fA (a7 ?_);clear hX U hP J hB c0 N jp lw mp n6 V hC hS0;obtain⟨i9,hi,hz0,hz1,hz2⟩:=info_parts R5;have cn:=z.cell 0;cases hne:name.toList.isEmpty with
  |true=>
   have hk0:=ht hne;subst hk0;have c1:=z.cell 1;have hN5:=hN.drew;have P:=z.drew;have Y:=H.drew;have am:=O.drew;go_upto_region 4 with fail
   refine a8 ?_;refine dW (S:=fun Z:World=>Z.cell? (gx,1)=text) 7 [1,1,1,0,1,0,1,0] (by kernel_rfl) (fun _ _ _ _ _ h=>h) (P.cell 1) (fun hS0=>?_);simp only[osq,fL,aF,ap];iterate 3 (apply cU;rfl;(intro w i8;go_simp;try(with_reducible rfl));simp only[Act.put,zA,zB,zC])
   refine cC rfl rfl (fun K hK=>?_);have q1:=hN5.cell 0;have q2:=hN5.free 0;go_simp
   have V:=(hN.put 0 zZ).drew;have N:=(z.iD (p:=o) (show gx≠o by omega) zZ).drew;have jp:=(H.iD (p:=o) (show gt≠o by omega) zZ).drew;have lw:=(O.iD (p:=o) (show y≠o by omega) zZ).drew;have hCa:=fp.setCell w4 o zZ;have n6:=(I.trans (hCa.below (show B<=o by omega))).trans ((Below.refl B _).drew);have mp:=fS (aZ (w':=w4.setCell o zZ) W (fun g X _=>hCa.other g (qr g X)));clear q1 q2 hCa;generalize (w4.setCell o zZ).drew=w5 at*;(try simp only[Act.put,zA,zB,zC]);refine hK.out _ _ (N.cell 1) (fun _=>?_);clear hK K;(apply cU;rfl;(intro w i8;go_simp;try(with_reducible rfl));simp only[Act.put,zA,zB,zC]);refine cC rfl rfl (fun K hK=>?_);have q1:=V.cell 2;have q2:=V.free 2;go_simp
   have In:=V.put 2 text;have hXb:=N.iD (p:=(o,2)) (show gx≠o by omega) text;have hTb:=jp.iD (p:=(o,2)) (show gt≠o by omega) text;have hPb:=lw.iD (p:=(o,2)) (show y≠o by omega) text;have hCb:=fp.setCell w5 (o,2) text;have hBb:=n6.trans (hCb.below (show B<=o by omega));have hob:=aZ (w':=w5.setCell (o,2) text) mp (fun g X _=>hCb.other g (qr g X));clear q1 q2 hCb;generalize w5.setCell (o,2) text=w6 at*;(try simp only[Act.put,zA,zB,zC]);refine hK.out _ _ (hXb.cell 1) (fun _=>?_);clear hK K;(apply cU;rfl;(intro w i8;go_simp;try(with_reducible rfl));simp only[Act.put,zA,zB,zC]);refine lW rfl rfl (fun K hK=>?_);have q1:=In.cell 3;have q2:=In.free 3;go_simp
   have hNc:=In.put 3 zn;have hXc:=hXb.iD (p:=(o,3)) (show gx≠o by omega) zn;have hTc:=hTb.iD (p:=(o,3)) (show gt≠o by omega) zn;have hPc:=hPb.iD (p:=(o,3)) (show y≠o by omega) zn;have hCc:=fp.setCell w6 (o,3) zn;have hBc:=hBb.trans (hCc.below (show B<=o by omega));have hoc:=aZ (w':=w6.setCell (o,3) zn) hob (fun g X _=>hCc.other g (qr g X));clear q1 q2 hCc;generalize w6.setCell (o,3) zn=wt at*;(try simp only[Act.put,zA,zB,zC]);refine hK.out _ _ ?_;clear hK K;refine fA (a7 ?_);clear H O z W I hN V N jp lw n6 mp In hXb hTb hPb hBb hob hN5 P Y am hS0 c1 cn;have H:=hTc;have O:=hPc;have z:=hXc;have W:=hoc;have I:=hBc;clear hTc hPc hXc hoc hBc;have cn:=z.cell 0;go_upto_region 5 with fail
   have ct:=H.cell 0;go_wp2_with (refine aX 121 rfl ?_)
   refine⟨eu rfl rfl rfl hNc Tryz.underlying121 rfl (by kernel_rfl) ?_⟩;simp only[Act.put,zA,zB,zC];go_wp2_with (refine cR _ _ _ _ rfl ?_)
   have s:=W.alloc (.cells #[zZ,name,text,zn,l,zm,zm,d,zm] 121);have Y:=H.alloc (.cells #[zZ,name,text,zn,l,zm,zm,d,zm] 121);have am:=O.alloc (.cells #[zZ,name,text,zn,l,zm,zm,d,zm] 121);have P:=z.alloc (.cells #[zZ,name,text,zn,l,zm,zm,d,zm] 121);have hz4:=Nat.le_trans ip I.size;have rg:=I.alloc hz4 (.cells #[zZ,name,text,zn,l,zm,zm,d,zm] 121);have un:=df (aE.new wt 121 #[zZ,name,text,zn,l,zm,zm,d,zm]) (news:=(#[zZ,name,text,zn,l,zm,zm,d,zm]:Array Value).toList) rfl;have hL1:L.length<1000:=by have:=uv l d (.mk name text []) L;omega
   refine⟨eC _ rfl (.tmp 35) (.tmp 37) 46 rfl B 121 i9 (.agg ZN) 9 104 Tryz.underlying46 hi hz0 hz1 hz2 rfl (by decide) (.slice A1 L.length q1) _ _ rfl s wt 1 1 _ rfl rfl un (by simp[Value.oneCell']) (by unfold maxLen;omega) (by omega) (by simp;omega) ?_⟩;intro v' w6 q C _;have r:=Y.grown s C (by decide);have a5:=am.grown s C (by decide);have a9:=P.grown s C (by decide);have ut:=rg.trans (eo s C (by simp;omega));replace q:=H0 (L:=L) ⟨2,name,text,l,-1,-1,d,-1⟩ q;obtain⟨A2,q2,rfl,-⟩:=aV q;clear s Y am P rg un C W H O z I hNc ct cn;simp only[Act.put,zA,zB,zC];have ct6:=r.cell 0;have ft6:=r.free 0;generalize g8:L++[⟨2,name,text,l,-1,-1,d,-1⟩]=L2 at*;have wl:L2.length=L.length+1:=by rw[<-g8];simp
   rw[wl]at q;go_upto_region 6 with fail
   have ii:=r.put 0 (.slice A2 (L.length+1) q2);have D:=fp.setCell w6 gt (.slice A2 (L.length+1) q2);have UV:=a5.dA D (fun e=>by subst e;have:=a5.symm.trans r;simp at this);have wn:=a9.dA D (fun e=>by subst e;have:=a9.symm.trans r;simp at this);have WF:=ut.put D;have WP:=aZ (w':=w6.setCell gt (.slice A2 (L.length+1) q2)) q (fun g X pm=>D.other g (fun e=>fM r q (by decide) (by rw[X,e])));clear r a5 a9 ut q D ct6 ft6;generalize w6.setCell gt (.slice A2 (L.length+1) q2)=w7 at*;have ct7:=ii.cell 0;have cn7:=wn.cell 0;have eq:Hid (eU l d (.mk name text []) L=L2):=aU (by unfold eU;rw[aS (by simp[hne]),g8]);go_wp2_with fail
   go_ret
   rw[eq.out,wl];exact⟨rfl,WF,_,ii,UV,WP⟩
  |false=>
   go_upto_region 5 with fail
   have ct:=H.cell 0;go_wp2_with (refine aX 121 rfl ?_)
   refine⟨eu rfl rfl rfl hN Tryz.underlying121 rfl (by kernel_rfl) ?_⟩;simp only[Act.put,zA,zB,zC];go_wp2_with (refine cR _ _ _ _ rfl ?_)
   have s:=W.alloc (.cells #[zJ,name,eQ,zn,l,zm,zm,d,zm] 121);have Y:=H.alloc (.cells #[zJ,name,eQ,zn,l,zm,zm,d,zm] 121);have am:=O.alloc (.cells #[zJ,name,eQ,zn,l,zm,zm,d,zm] 121);have P:=z.alloc (.cells #[zJ,name,eQ,zn,l,zm,zm,d,zm] 121);have hz4:=Nat.le_trans ip I.size;have rg:=I.alloc hz4 (.cells #[zJ,name,eQ,zn,l,zm,zm,d,zm] 121);have un:=df (aE.new w4 121 #[zJ,name,eQ,zn,l,zm,zm,d,zm]) (news:=(#[zJ,name,eQ,zn,l,zm,zm,d,zm]:Array Value).toList) rfl;have hL1:L.length<1000:=by have:=uv l d (.mk name text a) L;omega
   refine⟨eC _ rfl (.tmp 35) (.tmp 37) 46 rfl B 121 i9 (.agg ZN) 9 104 Tryz.underlying46 hi hz0 hz1 hz2 rfl (by decide) (.slice A1 L.length q1) _ _ rfl s w4 1 1 _ rfl rfl un (by simp[Value.oneCell']) (by unfold maxLen;omega) (by omega) (by simp;omega) ?_⟩;intro v' w6 q C _;have r:=Y.grown s C (by decide);have a5:=am.grown s C (by decide);have a9:=P.grown s C (by decide);have ut:=rg.trans (eo s C (by simp;omega));replace q:=H0 (L:=L) ⟨1,name,eQ,l,-1,-1,d,-1⟩ q;obtain⟨A2,q2,rfl,-⟩:=aV q;clear s Y am P rg un C W H O z I hN ct cn;simp only[Act.put,zA,zB,zC];have ct6:=r.cell 0;have ft6:=r.free 0;generalize g8:L++[⟨1,name,eQ,l,-1,-1,d,-1⟩]=L2 at*;have wl:L2.length=L.length+1:=by rw[<-g8];simp
   rw[wl]at q;go_upto_region 6 with fail
   have ii:=r.put 0 (.slice A2 (L.length+1) q2);have D:=fp.setCell w6 gt (.slice A2 (L.length+1) q2);have UV:=a5.dA D (fun e=>by subst e;have:=a5.symm.trans r;simp at this);have wn:=a9.dA D (fun e=>by subst e;have:=a9.symm.trans r;simp at this);have WF:=ut.put D;have WP:=aZ (w':=w6.setCell gt (.slice A2 (L.length+1) q2)) q (fun g X pm=>D.other g (fun e=>fM r q (by decide) (by rw[X,e])));clear r a5 a9 ut q D ct6 ft6;generalize w6.setCell gt (.slice A2 (L.length+1) q2)=w7 at*;have ct7:=ii.cell 0;have cn7:=wn.cell 0;have c3:=wn.cell 3;go_upto_region 10 with fail
   obtain⟨F,hF⟩:∃F,sk L.length a (L2,-1)=F:=⟨_,rfl⟩;have HF:=aU hF;have eq:Hid (eU l d (.mk name text a) L=xA F.1 L.length (Nd.VY F.2)):=aU (by unfold eU;rw[aI (by simp[hne]),g8,hF]);have ww:Hid (F.1.length<=1000):=aU (by have:=hlen;rw[eq.out,iE]at this;exact this);have hKL:a.length<=1000:=by have h1:=qK L.length a (L2,-1);rw[hF]at h1;have h2:=ww.out;omega
   clear hF hlen wn ct7 cn7 c3 g8;go_loopg [11,53] a.length (fun g s11 s53 wr=>∃(i:Nat) (M:List Nd) (f:Int) (v:Value),g=a.length-i/\i<=a.length/\s53=i/\s11=f/\Hid (sk L.length (a.drop i) (M,f)=F)/\L.length<M.length/\Hid (f= -1\/∃m:Nat,f=m/\m<M.length)/\aE wr gt 48 #[v]/\aE wr y 169 #[ED gt y]/\wr.ownsRow B 121 9 v M.length (M.flatMap Nd.cells)/\Kp B gt w0 wr)
   case atStart=>exact⟨0,L2,-1,_,rfl,Nat.zero_le _,rfl,rfl,HF,by omega,aU (.inl rfl),ii,UV,by rw[wl];exact WP,WF⟩
   case round=>
    clear HF ii UV WP WF;obtain⟨i,M,f,v,rfl,hi',rfl,rfl,HK,hLM,HLAST,U,hP,J,hB⟩:=hrel;have HM:Hid (M.length<=F.1.length):=aU (by rw[<-HK.out];exact ba (adu _ _) (qK _ _ (M,f)));have hM1:=Nat.le_trans HM.out ww.out;by_cases em:i<a.length
    .have e1:=lJ i a.length (by omega);obtain⟨b,off,rfl,hbB,hr⟩:=hA (by intro e;rw[e]at em;simp at em);obtain⟨k,hkk⟩:∃k,a[i]? =some k:=⟨a[i],List.getElem?_eq_getElem em⟩;have hrg:wr.rangeAt b (off+i*4) (#[k.name,k.text,zn,kv i]:Array Value).toList:=fun j v hv=>(hB.cell (p:=(b,off+i*4+j)) (show b<B by omega) (show b≠gt by omega)).trans (hr i k hkk j v hv);have hdrop:a.drop i=k::a.drop (i+1):=by rw[bQ em];have:=hkk;rw[af em]at this;cases this;rfl
     have HK2:Hid (sk L.length (a.drop (i+1)) (if f= -1 then xA (eU L.length f k M) L.length (Nd.HJ M.length)else xA (eU L.length f k M) f.toNat (Nd.HO M.length),(M.length:Int))=F):=aU (by have:=HK.out;rw[hdrop]at this;unfold sk at this;exact this);have HML:Hid ((eU L.length f k M).length<=1000):=aU (by
      have h1:=qK L.length (a.drop (i+1)) (if f= -1 then xA (eU L.length f k M) L.length (Nd.HJ M.length)else xA (eU L.length f k M) f.toNat (Nd.HO M.length),(M.length:Int));rw[HK2.out]at h1;have h2:=ww.out;split at h1<;>simp only[iE]at h1<;>omega)
     have hBr:=Nat.le_trans ip hB.size;have hgl:gt<wr.heap.size/\y<wr.heap.size:=⟨U.lt,hP.lt⟩;go_upto_region 11 with fail
     go_wp2_with (refine aX 103 rfl ?_)
     refine⟨bY rfl 103 _ rfl b (off+i*4) rfl #[k.name,k.text,zn,kv i] _ hrg Tryz.underlying103 rfl (by kernel_rfl) ?_⟩;simp only[Act.put,zA,zB,zC];go_wp2_with (refine aX 103 rfl ?_)
     refine⟨?_⟩;have hkv1:=(hk i k hkk).one;refine dK #[k.name,k.text,zn,kv i] rfl rfl rfl rfl (aE.new _ _ _) rfl (by kernel_rfl) (by simp[Value.oneCell']at hkv1|-;exact hkv1) ?_;intro w8 hX hC;simp only[Act.put,zA,zB,zC];have hB8:Kp B gt w0 w8:=(hB.alloc hBr _).trans (hC.below hBr);have hT8:aE w8 gt 48 #[v]:=(U.alloc _).dA hC (by omega);have hP8:aE w8 y 169 #[ED gt y]:=(hP.alloc _).dA hC (by omega);have ho8:=aZ (w':=w8) (J.alloc _) (fun g X pm=>hC.other g (by have:=(J.lt g X).2;omega));generalize hgy:wr.heap.size=gy at*;clear hgy hC U hP J hB hrg;have cp8:w8.cell? y=some (ED gt y):=hP8.cell 0;unfold ED at cp8;go_upto_region 12 with fail
     go_wp2_with (refine aX 103 rfl ?_)
     refine⟨eu rfl rfl rfl hX Tryz.underlying103 rfl (by kernel_rfl) ?_⟩;simp only[Act.put,zA,zB,zC];go_upto_region 13 with(go_at_call 76;refine(ih i k hkk L.length f M v w8 hB8 hT8 hP8 ho8 HML.out).mono ?_;rintro e w9 ⟨rfl,hB9,v9,io,Do,E⟩)
     have hML2:=uv L.length f k M;clear hB8 hT8 hP8 ho8 cp8 hX;generalize eU L.length f k M=M' at*;have hMn:L.length<M'.length:=by omega
     obtain⟨Q,q9,rfl,hg9,-,hg9l⟩:=dL E (by omega);have ct9:w9.cell? gt=(Q,M'.length,q9):=io.cell 0;have ge:gt≠Q:=fun e=>fM io E (by decide) (by rw[e];rfl);have g7:y≠Q:=fun e=>fM Do E (by decide) (by rw[e];rfl);have d4:decide ((4096:Int)<(M'.length:Int))=false:=decide_eq_false (by have:=HML.out;omega);have e9:IntKind.i64.wrap ((i:Int)+1)=((i+1:Nat):Int):=by rw[bE _ (by omega)];omega
     by_cases H1:f= -1
     .have f1:(f== -1)=true:=by simp[H1]
      obtain⟨u,cu⟩:=zy (j:=5) hMn (by decide) E;have fu:=E.frozenAt (L.length*9+5);have t:=EE (Nd.HJ M.length) 5 M.length hMn (by decide) (fun x=>rfl) E;have n:=fp.setCell w9 (Q,L.length*9+5) M.length;have G:=io.dA n ge;have R:=Do.dA n g7;have T:=hB9.trans (n.below (show B<=Q from hg9));have HK3:Hid (sk L.length (a.drop (i+1)) (xA M' L.length (Nd.HJ M.length),(M.length:Int))=F):=aU (by have:=HK2.out;rwa[aS H1]at this);go_upto_region 16 with fail
      clear cu fu ct9 E io Do hB9 n;rw[iE]at t;generalize w9.setCell (Q,L.length*9+5) M.length=w10 at*;have ct10:w10.cell? gt=(Q,M'.length,q9):=G.cell 0;go_wp2_with fail
      go_roundg (a.length-(i+1))
      case measure=>omega
      case rel=>exact⟨i+1,_,_,_,rfl,em,rfl,rfl,HK3,by rw[iE];exact hMn,aU (.inr ⟨M.length,rfl,by rw[iE];exact hML2⟩),G,R,by rw[iE];exact t,T⟩
     .have f1:(f== -1)=false:=by simpa using H1
      obtain⟨m,rfl,hm⟩:∃m:Nat,f=m/\m<M.length:=HLAST.out.resolve_left H1;have hmM:m<M'.length:=by omega
      obtain⟨u,cu⟩:=zy (j:=8) hmM (by decide) E;have fu:=E.frozenAt (m*9+8);have t:=EE (Nd.HO M.length) 8 M.length hmM (by decide) (fun x=>rfl) E;have n:=fp.setCell w9 (Q,m*9+8) M.length;have G:=io.dA n ge;have R:=Do.dA n g7;have T:=hB9.trans (n.below (show B<=Q from hg9));have HK3:Hid (sk L.length (a.drop (i+1)) (xA M' m (Nd.HO M.length),(M.length:Int))=F):=aU (by have:=HK2.out;rw[aI H1]at this;simpa using this);go_upto_region 16 with fail
      clear cu fu ct9 E io Do hB9 n;rw[iE]at t;generalize w9.setCell (Q,m*9+8) M.length=w10 at*;have ct10:w10.cell? gt=(Q,M'.length,q9):=G.cell 0;go_wp2_with fail
      go_roundg (a.length-(i+1))
      case measure=>omega
      case rel=>exact⟨i+1,_,_,_,rfl,em,rfl,rfl,HK3,by rw[iE];exact hMn,aU (.inr ⟨M.length,rfl,by rw[iE];exact hML2⟩),G,R,by rw[iE];exact t,T⟩
    .have hkl:i=a.length:=by omega
     subst hkl;have HF2:Hid (F=(M,f)):=aU (by have:=HK.out;rw[gZ]at this;unfold sk at this;exact this.symm);obtain⟨Q,q9,rfl,hg9,-,hg9l⟩:=dL J (by omega);have ct9:wr.cell? gt=(Q,M.length,q9):=U.cell 0;have ge:gt≠Q:=fun e=>fM U J (by decide) (by rw[e];rfl);have g7:y≠Q:=fun e=>fM hP J (by decide) (by rw[e];rfl);obtain⟨u,cu⟩:=zy (j:=6) hLM (by decide) J;have fu:=J.frozenAt (L.length*9+6);have t:=EE (Nd.VY f) 6 f hLM (by decide) (fun x=>rfl) J;have n:=fp.setCell wr (Q,L.length*9+6) f;have G:=U.dA n ge;have R:=hP.dA n g7;have T:=hB.trans (n.below (show B<=Q from hg9));go_wp2_with fail
     go_ret
     rw[eq.out,HF2.out];exact⟨rfl,T,_,G,R,by rw[iE]at t|-;exact t⟩
