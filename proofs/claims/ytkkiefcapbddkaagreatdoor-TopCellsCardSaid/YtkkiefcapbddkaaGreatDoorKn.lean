/- part of topCells.proved -/
import Derived.Test.YtkkiefcapbddkaaGreatDoorKk
set_option linter.all false
set_option maxRecDepth 1000000
set_option maxHeartbeats 0
noncomputable section
namespace Go.Proofs.YtkkiefcapbddkaaGreatDoor
open Go.RowKit Mem ep Num Ord
variable{R:List (List ByteArray)}{O op:List Nat}{B p x:Nat}{v:Value}{w:World}
namespace ep
inductive pT(w:World)(lo hi:Nat):Pt->Value->Prop
 |mk (name text) (kids:List Pt) (A:Option Addr) (c:Nat) (kv:Nat->Value) (hA:kids≠[]->∃b off,A=some ⟨b,off,none⟩/\lo<=b/\b<hi/\∀(i:Nat) k,kids[i]? =some k->w.rangeAt b (off+i*4) (YZ k (kv i)))
  (ht:name.toList.isEmpty=true->kids=[]) (hk:∀(i:Nat) k,kids[i]? =some k->pT w lo hi k (kv i)):pT w lo hi (.mk name text kids) (.slice A kids.length c)
def pT.one{j A:Nat}{p:Pt}(h:pT w j A p v):v.oneCell'=true:=by cases h;rfl
def pT.aaI{E H j:Nat}{p:Pt}(h:pT w E H p v)(O:j<=E)(P:H<=B):pT w j B p v:=by
 induction h with
 |mk name text C A c I J L Q ih=>
  refine .mk name text C A c I (fun M=>?_) L ih;obtain⟨b,D,e,R,S,N⟩:=J M;exact⟨b,D,e,by omega,by omega,N⟩
def pT.keep{w':World}{D:Nat}{p:Pt}(h:pT w D B p v)(J:∀b,D<=b->b<B->w'.heap[b]? =w.heap[b]?):pT w' D B p v:=by
 induction h with
 |mk name text C A c L M N O ih=>
  refine .mk name text C A c L (fun P=>?_) N ih;obtain⟨b,E,e,H,I,Q⟩:=M P;refine⟨b,E,e,H,I,fun i k B j v R=>?_⟩;rw[<-Q i k B j v R];simp only[World.cell?,J b H I]
def pT.is{D C:Nat}{p:Pt}(h:pT w D C p v):Br w C p v:=by
 induction h with
 |mk name text j A c E H I N ih=>
  refine .mk name text j A c E (fun J=>?_) I ih;obtain⟨b,B,e,O,L,M⟩:=H J;exact⟨b,B,e,L,M⟩
inductive oY(S:Nat->Option Rec):Nat->Pt->Prop
 |mk (p:Nat) (r:Rec) (kids:List Pt) (h:S p=some r) (hl:r.kids.length=kids.length) (hn:r.kids.length<=1000) (ht:r.name.toList.isEmpty=true->kids=[]) (hk:∀(i:Nat) q t,r.kids[i]? =some q->kids[i]? =some t->oY S q t):oY S p (.mk r.name r.text kids)
def ZP:Array Value:=#[eQ,eQ,zn,zn]
def pcs(q:Pt×Value):List Value:=YZ q.1 q.2
def V8(q:Pt×Value):(pcs q).length=4:=rfl
def hone(k:Pt)(v:Value)(h:v.oneCell'=true):∀u∈YZ k v,u.oneCell'=true:=by
 intro u a;simp only[YZ,aw,bB,eA]at a;rcases a with rfl|rfl|rfl|rfl
 .rfl
 .rfl
 .rfl
 .exact h
end ep
def V9:(Tryz.prog.info? 103).map (fun i=>(i.zero,i.size,i.bytes))=some (some (.agg ZP),4,80):=by kernel_rfl
def OZ(w0:World)(B:Nat)(ov:Value)(S:Nat->Option Rec)(g7:H5 w0 B ov S){t:Pt}(ht:oY S p t):∀(w:World),Below w0 w0 w->
 Calls tp 32 #[pt p] w fun e w'=>∃kv,e=.returned (.agg #[t.name,t.text,zn,kv])/\Below w w w'/\pT w' w w' t kv:=by
 induction ht with
 |mk p r f h hl hn hte hk ih=>
  intro w hW;have hN0:=(g7.node p r h).below hW (g7.node p r h).lt;have R:=ca (g7.kids p r h) hW;have jp:=hW.size;have lw:aE (w.alloc (.cells ZP 103)) w 103 ZP:=aE.new _ _ _;have mp:Below w w (w.alloc (.cells ZP 103)):=(Below.refl _ _).alloc (ae _) _;obtain⟨i9,P,hz0,n6,hz2⟩:=info_parts V9;go_enter Tryz.func32,Tryz.ntmps32
  go_upto_region 1 with fail
  have E:w.heap.size<=(w.alloc (.cells ZP 103)).heap.size:=by simp
  refine bM (fun Z=>aE Z w 103 ZP/\aE Z p 92 r.arr/\Below w w Z/\w.heap.size<=Z.heap.size) ⟨lw,hN0.alloc _,mp,E⟩ ?_;clear lw mp E;rintro H ⟨T,F,pm,E⟩;obtain⟨g2,g8⟩:=iG w.heap.size;rw[<-g8]at T|-;have hg2le:w.heap.size<=g2:=by omega
  replace g8:=aU g8;refine a8 ?_;refine dW (S:=fun Z:World=>Z.cell? p=r.name/\Z.cell? (p,1)=r.text/\Z.cell? (p,2)=zn) 14 [1,1,1,1,1,1,1,1,1,1,1,1,1,0,0] (by kernel_rfl) (fun _ _ _ _ _ h=>h) (⟨F.drew.cell 0,F.drew.cell 1,F.drew.cell 2⟩) (fun ii=>?_);simp only[osq,fL,aF,ap];iterate 13 (apply cU;rfl;(intro w qr;go_simp;try(with_reducible rfl));simp only[Act.put,zA,zB,zC])
  refine cC rfl rfl (fun K s=>?_);refine gK (v:=pt H.drew.heap.size) (w':=(H.drew.alloc (.cells ZP 103))) (by kernel_rfl) ?_;have I:=F.drew.alloc (.cells ZP 103);have rg:=T.drew.alloc (.cells ZP 103);have un:=(pm.trans ((Below.refl w H).drew)).alloc (show w.heap.size<=H.drew.heap.size from E) (.cells ZP 103);have ut:aE (H.drew.alloc (.cells ZP 103)) H.drew.heap.size 103 ZP:=aE.new _ _ _;have hgg:g2<H.drew.heap.size/\p<H.drew.heap.size/\w.heap.size<=H.drew.heap.size:=⟨T.lt,F.lt,E⟩;generalize H.drew.heap.size=l at*;generalize (H.drew.alloc (.cells ZP 103))=w2 at*;simp only[Act.put,zA,zB,zC];refine s.out _ _ (⟨I.cell 0,I.cell 1,I.cell 2⟩) (fun _=>?_);clear s K;refine lW rfl rfl (fun K s=>?_);refine HW 103 _ _ rfl l #[r.name,r.text,zn,zn] rfl rfl 103 ZP ut rfl (by kernel_rfl) (by simp[Value.oneCell']) ?_;intro w3 wl U;have wn:=I.dA U (by omega);have ww:=rg.dA U (by omega);have io:=un.trans (U.below (show w.heap.size<=l by omega));simp only[Act.put,zA,zB,zC];refine s.out _ _ ?_;clear s K;refine fA (a7 ?_);have Do:=ca R io;obtain⟨A0,c0,am,-⟩:=aV Do;have ck:=(wn.cell 4).trans (by show some r.kv=_;rw[am]);rw[am]at R;clear F T pm I rg un ut U ii E Do;go_upto_region 3 with fail
  replace hk:=aU hk;go_loopg [24] r.kids.length (fun g s24 wr=>∃(i:Nat) (Q:List (Pt×Value)) (v:Value),g=r.kids.length-i/\i<=r.kids.length/\s24=i/\Hid (Q.map Prod.fst=f.take i)/\aE wr l 103 #[r.name,r.text,zn,v]/\aE wr g2 103 ZP/\wr.ownsRow (l+1) 103 4 v i (Q.flatMap pcs)/\Below w w wr/\Hid (∀q∈Q,∃m P,pT wr m P q.1 q.2/\l<m/\P<=wr.heap.size/\∀g,v.ownBlock=some g->g<m\/P<=g))
  case atStart=>exact⟨0,[],zn,rfl,Nat.zero_le _,rfl,aU (by simp),wl,ww,dl _ _ _ _,io,aU (fun q hq=>by cases hq)⟩
  case round=>
   clear wl ww io wn ck;obtain⟨i,Q,v,rfl,hii,rfl,H1,hX,hG,ho,hB,In⟩:=hrel;obtain⟨A,c,hv,-⟩:=aV ho;subst hv;have UV:=hB.size;have WF:=jp;by_cases WP:i<r.kids.length
   .have e1:=lJ i r.kids.length (by omega);obtain⟨q,hq⟩:∃q,r.kids[i]? =some q:=⟨r.kids[i],List.getElem?_eq_getElem WP⟩;obtain⟨k,hkk⟩:∃k,f[i]? =some k:=⟨f[i]'(by omega),af (by omega)⟩;obtain⟨g0,c0',hA0,-,-,hg0⟩:=dL R (by omega);injection hA0 with a1 a2 a3;subst a1 a3;have cq:wr.cell? (g0,i)=pt q:=by
     have h1:=R.cells (g:=g0) rfl i (ptr q) (by simp[hq]);rw[Addr.add_mid,bc]at h1;exact(hB.cell (p:=(g0,i)) hg0).trans h1
    go_upto_region 5 with fail
    refine a8 ?_;refine dW (S:=fun Z:World=>Z.cell? (l,3)=some (.slice A i c)) 7 [1,1,1,0,0,0,1,0] (by kernel_rfl) (fun _ _ _ _ _ h=>h) (hX.drew.cell 3) (fun ii=>?_);simp only[osq,fL,aF,ap];iterate 3 (apply cU;rfl;(intro w qr;go_simp;try(with_reducible rfl));simp only[Act.put,zA,zB,zC])
    refine cC rfl rfl (fun K s=>?_);go_simp
    refine(ih i q k hq hkk wr.drew (hW.trans ((hB.trans ((Below.refl w wr).drew)).mono WF))).mono ?_;rintro e J ⟨a,rfl,x,V⟩;have hlo:wr.drew.heap.size=wr.heap.size:=rfl;rw[hlo]at x V;have ip:=hX.drew.below x hX.lt;have hG9:=hG.drew.below x hG.lt;have ho9:=ca (fS ho) x;have a5:=(hB.trans ((Below.refl w wr).drew)).trans (x.mono UV);have hz9:=x.size;go_wp2_with fail
    (try simp only[Act.put,zA,zB,zC])
    refine s.out _ _ (ip.cell 3) (fun _=>?_);clear s K;refine cC rfl rfl (fun K s=>?_);refine gK (v:=(J.heap.size,1,1)) (w':=(J.alloc (.cells #[k.name,k.text,zn,a] 103))) (by kernel_rfl) ?_;have G:=ip.alloc (.cells #[k.name,k.text,zn,a] 103);have i8:=hG9.alloc (.cells #[k.name,k.text,zn,a] 103);have L:=ho9.alloc (.cells #[k.name,k.text,zn,a] 103);have hBb:=a5.alloc (by omega) (.cells #[k.name,k.text,zn,a] 103);have hnw:=df (aE.new J 103 #[k.name,k.text,zn,a]) (news:=YZ k a) rfl;simp only[Act.put,zA,zB,zC];refine s.out _ _ (G.cell 3) (fun _=>?_);clear s K;refine cC rfl rfl (fun K s=>?_);refine du (J.alloc (.cells #[k.name,k.text,zn,a] 103)) _ _ 101 rfl (l+1) 103 i9 (.agg ZP) 4 80 Tryz.underlying101 P hz0 n6 hz2 rfl (by decide) (.slice A i c) i _ rfl L J 1 1 (YZ k a) rfl rfl hnw (hone k a V.one) (by unfold maxLen;omega) (by omega) (by have:=G.lt;omega) ?_;intro v' d D n a9;have y:aE d l 103 _:=(n.block l G.lt (fun e=>by have:=(L.lt l e.symm).1;omega)).trans G;have em:aE d g2 103 _:=(n.block g2 i8.lt (fun e=>by have:=(L.lt g2 e.symm).1;omega)).trans i8;have eq:=dw hBb L n (by omega) (by have:=G.lt;omega);simp only[Act.put,zA,zB,zC];refine s.out _ _ (y.cell 3) (fun _=>?_);clear s K;(apply cU;rfl;(intro w qr;go_simp;try(with_reducible rfl));simp only[Act.put,zA,zB,zC]);refine lW rfl rfl (fun K s=>?_);have q1:=y.cell 3;have q2:=y.free 3;obtain⟨M,N,rfl,-⟩:=aV D;go_simp
    (try simp only[Act.put,zA,zB,zC])
    refine s.out _ _ ?_;clear s K;refine fA (a7 ?_);have hX11:aE (d.setCell (l,3) (.slice M (i+1) N)) l 103 #[r.name,r.text,zn,.slice M (i+1) N]:=y.put 3 _;have o:fp l d (d.setCell (l,3) (.slice M (i+1) N)):=fp.setCell d (l,3) (.slice M (i+1) N);have hG11:=em.dA o (by omega);have hB11:=eq.trans (o.below (show w.heap.size<=l by omega));have ho11:=aZ (w':=d.setCell (l,3) (.slice M (i+1) N)) D (fun g W _=>o.other g (by have:=(D.lt g W).1;omega));have hsz11:=o.size.symm;have hsz10:J.heap.size+1<=d.heap.size:=by have:=n.size;simpa using this
    have move:∀(m C:Nat) (t:Pt) (u:Value),pT J m C t u->l<m->C<=J.heap.size->(∀g,(Value.slice A i c).ownBlock=some g->g<m\/C<=g)->
     pT (d.setCell (l,3) (.slice M (i+1) N)) m C t u:=by
     intro m C t u h1 h2 h3 h4;refine h1.keep fun b b1 b2=>?_;rw[o.other b (by omega),n.block b (by simp;omega) (fun e=>by have:=h4 b e.symm;omega)];exact aG _ _ (by omega)
    have O:∀(m C:Nat),C<=J.heap.size->(∀g,(Value.slice A i c).ownBlock=some g->g<m\/C<=g)->∀g,(Value.slice M (i+1) N).ownBlock=some g->g<m\/C<=g:=by
     intro m C h3 h4 g W;rcases a9 with h5|⟨g',h5,h6⟩
     .exact h4 g (h5▸W)
     .rw[h5]at W;cases W;simp at h6;exact .inr (by omega)
    have HIN2:Hid (∀q∈Q++[(k,a)],∃m P,pT (d.setCell (l,3) (.slice M (i+1) N)) m P q.1 q.2/\l<m/\P<=(d.setCell (l,3) (.slice M (i+1) N)).heap.size/\∀g,(Value.slice M (i+1) N).ownBlock=some g->g<m\/P<=g):=aU (by
     intro z hz;rcases aJ.1 hz with hz|hz
     .obtain⟨m,C,b1,b2,b3,b4⟩:=In.out z hz;have b5:=b1.keep fun b _ hb=>x.block b (by omega);exact⟨m,C,move m C _ _ b5 b2 (by omega) b4,b2,by omega,O m C (by omega) b4⟩
     .rw[bG]at hz;subst hz;have b4:∀g,(Value.slice A i c).ownBlock=some g->g<wr.heap.size\/J.heap.size<=g:=fun g W=>.inl (ho.lt g W).2;exact⟨wr.heap.size,J.heap.size,move _ _ _ _ V (by have:=hX.lt;omega) (ae _) b4,by have:=hX.lt;omega,by omega,O _ _ (Nat.le_refl _) b4⟩)
    clear y em eq D n a9 o move O G i8 L hBb hnw ip hG9 ho9 a5 x V q1 q2 ii;generalize d.setCell (l,3) (.slice M (i+1) N)=w11 at*;have e9:IntKind.i64.wrap ((i:Int)+1)=((i+1:Nat):Int):=by rw[bE _ (by omega)];omega
    have HPS2:Hid ((Q++[(k,a)]).map Prod.fst=f.take (i+1)):=aU (by rw[b9,H1.out,List.take_add_one,hkk];rfl);go_wp2_with fail
    go_roundg (r.kids.length-(i+1))
    case measure=>omega
    case rel=>exact⟨i+1,_,_,rfl,WP,by first|rfl|go_num,HPS2,hX11,hG11,by rw[bW];simpa[pcs]using ho11,hB11,HIN2⟩
   .have hkl:i=r.kids.length:=by omega
    subst hkl;go_upto_region 7 with fail
    go_wp2_with (refine aX 103 rfl ?_)
    refine⟨eu rfl rfl rfl hX Tryz.underlying103 rfl (by kernel_rfl) ?_⟩;simp only[Act.put,zA,zB,zC];go_wp2_with (refine aX 103 rfl ?_)
    refine⟨dK #[r.name,r.text,zn,.slice A r.kids.length c] rfl rfl rfl rfl hG rfl (by kernel_rfl) (by simp[Value.oneCell']) ?_⟩;intro w5 hG5 X;simp only[Act.put,zA,zB,zC];go_wp2_with fail
    have hB5:=hB.trans (X.below (show w.heap.size<=g2 by omega));have ho5:=aZ (w':=w5) ho (fun g W _=>X.other g (by have:=(ho.lt g W).1;omega));have hpl:Q.map Prod.fst=f:=by have:=H1.out;rwa[hl,List.take_length]at this
    refine ej (lD 2 103 g2 rfl rfl hG5 _ Tryz.underlying103 rfl (by kernel_rfl)) rfl ?_;refine⟨_,rfl,hB5,?_⟩;have hpk:∀(j:Nat) kj,f[j]? =some kj->∃z,Q[j]? =some z/\z.1=kj:=fun j kj Y=>by
     rw[<-hpl,List.getElem?_map]at Y;cases hz:Q[j]? with
     |none=>rw[hz]at Y;cases Y
     |some z=>rw[hz]at Y;cases Y;exact⟨z,rfl,rfl⟩
    have ge:=pT.mk (w:=w5) (lo:=w.heap.size) (hi:=w5.heap.size) r.name r.text f A c (fun j=>match Q[j]? with|some z=>z.2|none=>zn) (fun hne=>?_) hte (fun j kj Y=>?_)
    .rw[<-hl]at ge;exact ge
    .obtain⟨g,c1,hA1,hg1,-,hg2'⟩:=dL ho5 (by rw[hl];exact BH.2 hne);injection hA1 with a1 a2 a3;refine⟨g,0,a1,by omega,hg2',fun j kj Y u v' hv'=>?_⟩;obtain⟨z,hz,rfl⟩:=hpk j kj Y;simp only[hz]at hv';have h1:=ho5.cells (g:=g) (by rw[a1];rfl) (j*4+u) v' (flat_get V8 hz hv');rw[Addr.add_mid]at h1;have e:0+j*4+u=0+(j*4+u):=by omega
     rw[e];exact h1
    .obtain⟨z,hz,rfl⟩:=hpk j kj Y;simp only[hz];obtain⟨m,C,b1,b2,b3,b4⟩:=In.out z (List.mem_of_getElem? hz);have b5:=b1.keep fun b hb1 hb2=>X.other b (by omega);exact b5.aaI (by omega) (by rw[X.size];exact b3)
namespace ep
structure Tk where
 kind:Int
 name:ByteArray
 text:ByteArray
def Tk.arr(x:Tk):Array Value:=#[x.kind,x.name,x.text,zn,false]
def Tk.cells(x:Tk):List Value:=x.arr.toList
def Se(x:Tk):x.cells.length=5:=rfl
def Y1(x:Tk):x.arr.all (·.oneCell')=true:=by simp[Tk.arr,Value.oneCell']
def tkT:Tk:=⟨2,eT,eQ⟩
def XS:Tk:=⟨2,eR,eQ⟩
def tkD:Tk:=⟨2,eD,eQ⟩
def Y2(s:ByteArray):Tk:=⟨1,eQ,s⟩
def O0:Tk:=⟨3,eT,eQ⟩
def iI(a:List ByteArray):List Tk:=a.flatMap fun s=>[tkD,Y2 s]
def gU(a:List (List ByteArray)):List Tk:=a.flatMap fun r=>XS::iI r
def kJ(R:List (List ByteArray)):List Tk:=tkT::(gU R++[O0])
def iX(s:ByteArray):Pt:=.mk eD eQ [.mk eQ s []]
def kg(r:List ByteArray):Pt:=.mk eR eQ (r.map iX)
def pU(R:List (List ByteArray)):Pt:=.mk eO eQ [.mk eT eQ (R.map kg)]
inductive iY(S:Nat->Option Rec)(O:List Nat):Nat->Pt->Prop
 |mk (p:Nat) (r:Rec) (kids:List Pt) (h:S p=some r) (ho:p∉O) (hl:r.kids.length=kids.length) (hn:r.kids.length<=1000) (ht:r.name.toList.isEmpty=true->kids=[]) (hk:∀(i:Nat) q t,r.kids[i]? =some q->kids[i]? =some t->iY S O q t):iY S O p (.mk r.name r.text kids)
def iY.at{S:Nat->Option Rec}{t:Pt}(h:iY S O p t):oY S p t:=by
 induction h with
 |mk p r j h D A B C E ih=>exact .mk p r j h A B C ih
def iY.move{S A:Nat->Option Rec}{B:List Nat}{t:Pt}(h:iY S O p t)(C:∀q r,S q=some r->q∉O->A q=some r/\q∉B):iY A B p t:=by
 induction h with
 |mk p r j h D E H I J ih=>exact .mk p r j (C p r h D).1 (C p r h D).2 E H I ih
def gH(S:Nat->Option Rec)(O:List Nat)(a:List Nat)(b:List Pt):Prop:=a.length=b.length/\∀(i:Nat) p t,a[i]? =some p->b[i]? =some t->iY S O p t
def gH.nil(S:Nat->Option Rec)(O:List Nat):gH S O [] []:=⟨rfl,fun i p t h=>by simp at h⟩
def gH.move{S j:Nat->Option Rec}{O A:List Nat}{B:List Nat}{C:List Pt}(h:gH S O B C)(D:∀q r,S q=some r->q∉O->j q=some r/\q∉A):gH j A B C:=⟨h.1,fun i p t a b=>(h.2 i p t a b).move D⟩
def gH.snoc{S:Nat->Option Rec}{j:List Nat}{A:List Pt}(h:gH S O j A){t:Pt}(C:iY S O p t):gH S O (j++[p]) (A++[t]):=by
 refine⟨by simp[h.1],fun i q u a b=>?_⟩;by_cases B:i<j.length
 .rw[an B]at a;rw[an (by rw[<-h.1];exact B)]at b;exact h.2 i q u a b
 .have D:=(List.getElem?_eq_some_iff.1 a).1;simp at D;have e:i=j.length:=by omega
  subst e;rw[ay (ae _)]at a;rw[ay (by rw[h.1];exact ae _),h.1]at b;simp at a b;subst a b;exact C
def iY.of{S:Nat->Option Rec}{r:Rec}{ts:List Pt}{name text:ByteArray}(h:S p=some r)(C:p∉O)(B:gH S O r.kids ts)(D:r.kids.length<=1000)(j:r.name=name)(A:r.text=text)(E:name.toList.isEmpty=true->ts=[]):iY S O p (.mk name text ts):=by
 subst j A;exact .mk p r ts h C B.1 D E B.2
structure pB(S:Nat->Option Rec)(op:List Nat)(rs:List (List ByteArray))(cs:List ByteArray)(root tb tr:Nat)(r0 r1 r2:Rec)(ps:List Nat):Prop where
 op:op=[root,tb,tr]\/∃td r3,op=[root,tb,tr,td]/\S td=some r3/\r3.name=eD
 d1:root≠tb
 d2:root≠tr
 d3:tb≠tr
 h0:S root=some r0
 n0:r0.name=eO
 t0:r0.text=eQ
 k0:r0.kids=[tb]
 h1:S tb=some r1
 n1:r1.name=eT
 t1:r1.text=eQ
 k1:r1.kids=ps++[tr]
 h2:S tr=some r2
 n2:r2.name=eR
 t2:r2.text=eQ
 f1:gH S [root,tb,tr] ps (rs.map kg)
 f2:gH S [root,tb,tr] r2.kids (cs.map iX)
structure EL(S:Nat->Option Rec)(op:List Nat)(rs:List (List ByteArray))(cs:List ByteArray)(root tb tr td:Nat)(r0 r1 r2 r3:Rec)(ps qs:List Nat):Prop where
 op:op=[root,tb,tr,td]
 d1:root≠tb
 d2:root≠tr
 d3:tb≠tr
 e0:td≠root
 e1:td≠tb
 e2:td≠tr
 h0:S root=some r0
 n0:r0.name=eO
 t0:r0.text=eQ
 k0:r0.kids=[tb]
 h1:S tb=some r1
 n1:r1.name=eT
 t1:r1.text=eQ
 k1:r1.kids=ps++[tr]
 h2:S tr=some r2
 n2:r2.name=eR
 t2:r2.text=eQ
 k2:r2.kids=qs++[td]
 h3:S td=some r3
 n3:r3.name=eD
 t3:r3.text=eQ
 k3:r3.kids=[]
 f1:gH S [root,tb,tr,td] ps (rs.map kg)
 f2:gH S [root,tb,tr,td] qs (cs.map iX)
structure zI(S:Nat->Option Rec)(op:List Nat)(root tb:Nat)(r0 r1:Rec):Prop where
 op:op=[root,tb]
 d1:root≠tb
 h0:S root=some r0
 n0:r0.name=eO
 t0:r0.text=eQ
 k0:r0.kids=[tb]
 h1:S tb=some r1
 n1:r1.name=eT
 t1:r1.text=eQ
 k1:r1.kids=[]
def zK(S:Nat->Option Rec)(x c:Nat)(a b:Rec)(d:Value):jb S x c a b d x=some {a with above:=ptr c}:=lE _ _ _
def vX{S:Nat->Option Rec}{c:Nat}(d a:Rec)(b:Value)(h:c≠x):jb S x c d a b c=some {a with kids:=a.kids++[x],kv:=b}:=by unfold jb;rw[vW _ _ _ h,lE]
def mK{S:Nat->Option Rec}{c:Nat}(a b:Rec)(d:Value)(e:p≠x)(f:p≠c):jb S x c a b d p=S p:=by unfold jb;rw[vW _ _ _ e,vW _ _ _ f]
def gE{S:Nat->Option Rec}{r:Rec}(h:S p=some r)(a:S x=none):p≠x:=fun e=>by rw[e,a]at h;cases h
def pB.names{S:Nat->Option Rec}{rs cs root tb tr r0 r1 r2 ps}(h:pB S op rs cs root tb tr r0 r1 r2 ps):dC S op=[⟨#[114,111,111,116]⟩,⟨#[116,97,98,108,101]⟩,⟨#[116,114]⟩]/\op.length=3\/dC S op=[⟨#[114,111,111,116]⟩,⟨#[116,97,98,108,101]⟩,⟨#[116,114]⟩,⟨#[116,100]⟩]/\op.length=4:=by
 rcases h.op with e|⟨B,C,e,j,A⟩
 .left;subst e;simp[dC,h.h0,h.h1,h.h2,h.n0,h.n1,h.n2]
 .right;subst e;simp[dC,h.h0,h.h1,h.h2,j,h.n0,h.n1,h.n2,A]
def zI.names{S:Nat->Option Rec}{root tb r0 r1}(h:zI S op root tb r0 r1):dC S op=[⟨#[114,111,111,116]⟩,⟨#[116,97,98,108,101]⟩]:=by
 rw[h.op];simp[dC,h.h0,h.h1,h.n0,h.n1]
def zI.row{S:Nat->Option Rec}{root tb r0 r1}(h:zI S op root tb r0 r1)(A:S x=none)(D:Value):∃j E,pB (jb S x tb (fG eR eQ) r1 D) [root,tb,x] [] [] root tb x r0 j E []:=by
 have B:=gE h.h0 A;have C:=gE h.h1 A;exact⟨_,_,.inl rfl,h.d1,B,C,(mK _ _ _ B h.d1).trans h.h0,h.n0,h.t0,h.k0,vX _ _ _ C,h.n1,h.t1,by simp[h.k1],zK _ _ _ _ _ _,rfl,rfl,gH.nil _ _,gH.nil _ _⟩
def pB.row{S:Nat->Option Rec}{rs cs root tb tr r0 r1 r2 ps}(h:pB S op rs cs root tb tr r0 r1 r2 ps)(j:S x=none)(B:Value)(C:cs.length<=1000):∃D E,pB (jb S x tb (fG eR eQ) r1 B) [root,tb,x] (rs++[cs]) [] root tb x r0 D E (ps++[tr]):=by
 have I:=gE h.h0 j;have J:=gE h.h1 j;have L:=gE h.h2 j;have M:∀q r,S q=some r->q∉[root,tb,tr]->jb S x tb (fG eR eQ) r1 B q=some r/\q∉[root,tb,x]:=fun q r hq A=>by
  simp only[aw,bB,eA,aae]at A|-;exact⟨(mK _ _ _ (gE hq j) A.2.1).trans hq,A.1,A.2.1,gE hq j⟩
 have H:iY (jb S x tb (fG eR eQ) r1 B) [root,tb,x] tr (kg cs):=by
  refine iY.of ((mK _ _ _ L (Ne.symm h.d3)).trans h.h2) ?_ (h.f2.move M) (by rw[h.f2.1];simpa using C) h.n2 h.t2 (fun e=>absurd e (by decide+kernel));simp only[aw,bB,eA,aae];exact⟨Ne.symm h.d2,Ne.symm h.d3,L⟩
 refine⟨_,_,.inl rfl,h.d1,I,J,(mK _ _ _ I h.d1).trans h.h0,h.n0,h.t0,h.k0,vX _ _ _ J,h.n1,h.t1,by simp[h.k1],zK _ _ _ _ _ _,rfl,rfl,?_,gH.nil _ _⟩;rw[b9];exact(h.f1.move M).snoc H
def pB.cell{S:Nat->Option Rec}{op:List Nat}{rs cs root tb tr r0 r1 r2 ps}(h:pB S op rs cs root tb tr r0 r1 r2 ps){x:Nat}(j:S x=none)(C:Value):∃B J,EL (jb S x tr (fG eD eQ) r2 C) [root,tb,tr,x] rs cs root tb tr x r0 r1 B J ps r2.kids:=by
 have D:=gE h.h0 j;have E:=gE h.h1 j;have H:=gE h.h2 j;have I:∀q r,S q=some r->q∉[root,tb,tr]->jb S x tr (fG eD eQ) r2 C q=some r/\q∉[root,tb,tr,x]:=fun q r hq A=>by
  simp only[aw,bB,eA,aae]at A|-;exact⟨(mK _ _ _ (gE hq j) A.2.2).trans hq,A.1,A.2.1,A.2.2,gE hq j⟩
 exact⟨_,_,rfl,h.d1,h.d2,h.d3,Ne.symm D,Ne.symm E,Ne.symm H,(mK _ _ _ D h.d2).trans h.h0,h.n0,h.t0,h.k0,(mK _ _ _ E h.d3).trans h.h1,h.n1,h.t1,h.k1,vX _ _ _ H,h.n2,h.t2,rfl,zK _ _ _ _ _ _,rfl,rfl,rfl,h.f1.move I,h.f2.move I⟩
def EL.word{S:Nat->Option Rec}{rs cs root tb tr td r0 r1 r2 r3 ps qs}(h:EL S op rs cs root tb tr td r0 r1 r2 r3 ps qs)(j:S x=none)(B:Value)(s:ByteArray):∃C,pB (jb S x td (fG eQ s) r3 B) op rs (cs++[s]) root tb tr r0 r1 C ps:=by
 have H:=gE h.h0 j;have I:=gE h.h1 j;have J:=gE h.h2 j;have L:=gE h.h3 j;have M:∀q r,S q=some r->q∉[root,tb,tr,td]->jb S x td (fG eQ s) r3 B q=some r/\q∉[root,tb,tr]:=fun q r hq A=>by
  simp only[aw,bB,eA,aae]at A|-;exact⟨(mK _ _ _ (gE hq j) A.2.2.2).trans hq,A.1,A.2.1,A.2.2.1⟩
 have D:iY (jb S x td (fG eQ s) r3 B) [root,tb,tr] x (.mk eQ s []):=by
  refine iY.of (zK _ _ _ _ _ _) ?_ (gH.nil _ _) (by simp[fG]) rfl rfl (fun _=>rfl);simp only[aw,bB,eA,aae];exact⟨Ne.symm H,Ne.symm I,Ne.symm J⟩
 have E:iY (jb S x td (fG eQ s) r3 B) [root,tb,tr] td (iX s):=by
  refine iY.of (vX _ _ _ L) ?_ ?_ (by simp[h.k3]) h.n3 h.t3 (fun e=>absurd e (by decide+kernel))
  .simp only[aw,bB,eA,aae];exact⟨h.e0,h.e1,h.e2⟩
  .simp only[h.k3];exact(gH.nil _ _).snoc D
 refine⟨_,.inr ⟨td,_,h.op,vX _ _ _ L,h.n3⟩,h.d1,h.d2,h.d3,(mK _ _ _ H (Ne.symm h.e0)).trans h.h0,h.n0,h.t0,h.k0,(mK _ _ _ I (Ne.symm h.e1)).trans h.h1,h.n1,h.t1,h.k1,(mK _ _ _ J (Ne.symm h.e2)).trans h.h2,h.n2,h.t2,h.f1.move M,?_⟩;rw[h.k2,List.map_append];exact(h.f2.move M).snoc E
def pB.whole{S:Nat->Option Rec}{rs cs root tb tr r0 r1 r2 ps}(h:pB S op rs cs root tb tr r0 r1 r2 ps)(j:cs.length<=1000)(E:rs.length<=900):oY S root (pU (rs++[cs])):=by
 have C:∀q r,S q=some r->q∉[root,tb,tr]->S q=some r/\q∉([]:List Nat):=fun q r hq H=>⟨hq,by simp⟩;have A:=iY.of h.h2 (by simp) (h.f2.move C) (by rw[h.f2.1];simpa using j) h.n2 h.t2 (fun e=>absurd e (by decide+kernel));have D:gH S [] r1.kids ((rs++[cs]).map kg):=by rw[h.k1,List.map_append];exact(h.f1.move C).snoc A
 have B:iY S [] tb (.mk eT eQ ((rs++[cs]).map kg)):=iY.of h.h1 (by simp) D (by rw[D.1];simp;omega) h.n1 h.t1 (fun e=>absurd e (by decide+kernel));exact(iY.of (O:=[]) (ts:=[.mk eT eQ ((rs++[cs]).map kg)]) h.h0 (by simp) (by rw[h.k0];exact(gH.nil _ _).snoc B) (by rw[h.k0];simp) h.n0 h.t0 (fun e=>absurd e (by decide+kernel))).at
def zI.whole{S:Nat->Option Rec}{root tb r0 r1}(h:zI S op root tb r0 r1):oY S root (pU []):=by
 have j:iY S [] tb (.mk eT eQ []):=iY.of h.h1 (by simp) (by rw[h.k1];exact gH.nil _ _) (by rw[h.k1];simp) h.n1 h.t1 (fun e=>absurd e (by decide+kernel));exact(iY.of (O:=[]) (ts:=[.mk eT eQ []]) h.h0 (by simp) (by rw[h.k0];exact(gH.nil _ _).snoc j) (by rw[h.k0];simp) h.n0 h.t0 (fun e=>absurd e (by decide+kernel))).at
end ep
namespace ep
def v1:pS [eO] [eD] 1=0:=by decide+kernel
def v2:ju [eO] 0 eP 1= -1:=by decide+kernel
def v3:pS [eO,eT] [eT] 2=1:=by decide+kernel
def v4:ju [eO,eT] 1 eR 2= -1:=by decide+kernel
def v5:pS [eO,eT,eR] [eT] 3=1:=by decide+kernel
def v6:ju [eO,eT,eR] 1 eR 3=2:=by decide+kernel
def v7:pS [eO,eT,eR,eD] [eT] 4=1:=by decide+kernel
def v8:ju [eO,eT,eR,eD] 1 eR 4=2:=by decide+kernel
def v9:pS [eO,eT,eR] [eR] 3=2:=by decide+kernel
def v10:ju [eO,eT,eR] 2 eD 3= -1:=by decide+kernel
def v11:pS [eO,eT,eR,eD] [eR] 4=2:=by decide+kernel
def v12:ju [eO,eT,eR,eD] 2 eD 4=3:=by decide+kernel
def v13:ju [eO,eT] 0 eT 2=1:=by decide+kernel
def v14:ju [eO,eT,eR] 0 eT 3=1:=by decide+kernel
def v15:ju [eO,eT,eR,eD] 0 eT 4=1:=by decide+kernel
inductive Ph(R:List (List ByteArray))(S:Nat->Option Rec)(op:List Nat)(root:Nat):List Tk->Prop
 |a (r0:Rec) (h:op=[root]) (h0:S root=some r0) (n0:r0.name=eO) (t0:r0.text=eQ) (k0:r0.kids=[]):Ph R S op root (kJ R)
 |t (tb:Nat) (r0 r1:Rec) (h:zI S op root tb r0 r1):Ph R S op root (gU R++[O0])
 |w (rs:List (List ByteArray)) (cs ws:List ByteArray) (rr:List (List ByteArray)) (tb tr:Nat) (r0 r1 r2:Rec) (ps:List Nat) (h:pB S op rs cs root tb tr r0 r1 r2 ps) (hR:R=rs++[cs++ws]++rr):Ph R S op root (iI ws++(gU rr++[O0]))
 |c (rs:List (List ByteArray)) (cs:List ByteArray) (s:ByteArray) (ws:List ByteArray) (rr:List (List ByteArray)) (tb tr td:Nat) (r0 r1 r2 r3:Rec) (ps qs:List Nat) (h:EL S op rs cs root tb tr td r0 r1 r2 r3 ps qs) (hR:R=rs++[cs++s::ws]++rr):Ph R S op root (Y2 s::(iI ws++(gU rr++[O0])))
 |e (h:op=[root]) (hT:oY S root (pU R)):Ph R S op root []
structure gI(R:List (List ByteArray)):Prop where
 rows:R.length<=6
 cells:∀r∈R,r.length<=6
 word:∀r∈R,∀s∈r,s.toList.isEmpty=false
def Sf{A:Option Addr}{l:List Tk}(h:dU w B A 5 Tk.cells l){k:Nat}(c:k<l.length):
 ∃b a x,A=some ⟨b,a,none⟩/\b<B/\l[k]? =some x/\w.rangeAt b (a+k*5) x.arr.toList:=by
 obtain⟨b,a,e,f,g⟩:=h (by rintro rfl;simp at c);have d:=List.getElem?_eq_getElem c;exact⟨b,a,l[k],e,f,d,fun j v i=>g k _ d j v i⟩
end ep
def x4(x:Tk):(Tryz.prog.info? 97).map (·.size)=some x.arr.size:=by
 show _=some 5;kernel_rfl
def KL(R:List (List ByteArray))(hR:gI R){Q:World}{b:Nat}{ov:Value}{cnt:Int}{S:Nat->Option Rec}(root:Nat)(h:dD w B b ov op cnt S)(q:Below B Q w)(G:0<=cnt)(u:cnt<=3000)(x:Tk)(m:List Tk)(hP:Ph R S op root (x::m)):
 (x.kind=1/\x.text.toList.isEmpty=false/\Calls tp 28 #[pt b,x.text] w fun e o=>e=rQ/\Below B Q o/\∃g n d E,dD o B b g n d E/\Ph R E n root m/\cnt<=d/\d<=cnt+1)\/
 (x.kind=2/\Calls tp 29 #[pt b,x.name,zn] w fun e o=>e=rQ/\Below B Q o/\∃g n d E,dD o B b g n d E/\Ph R E n root m/\cnt<=d/\d<=cnt+1)\/
 (x.kind=3/\Calls tp 30 #[pt b,x.name] w fun e o=>e=rQ/\Below B Q o/\∃g n d E,dD o B b g n d E/\Ph R E n root m/\cnt<=d/\d<=cnt+1):=by
 generalize J:x::m=l at hP;cases hP with
 |a M U h0 n0 t0 k0=>
  have j:dC S op=[⟨#[114,111,111,116]⟩]:=by rw[U];simp[dC,h0,n0]
  have f:op.length=1:=by rw[U];rfl
  unfold kJ at J;obtain⟨rfl,rfl⟩:=List.cons.inj J;right;left;refine⟨rfl,?_⟩;have z:jL op (-1)=op:=by unfold jL;rw[aI (by omega)]
  refine(EJ h q 0 (-1) (by rw[j,f];exact v1) (by omega) (by omega) (by rw[j,f];exact v2) (by omega) root M (by rw[z,U];rfl) h0 n0 G u (by rw[k0];simp) (by omega)).mono ?_;rintro e o ⟨A,C,x,v,g,K,p⟩;rw[z]at p;refine⟨A,C,g,_,_,_,p,?_,by omega,by omega⟩;have a0:=gE h0 K;refine .t x _ _ ⟨by rw[U];rfl,a0,vX _ _ _ a0,n0,t0,by simp[k0],zK _ _ _ _ _ _,rfl,rfl,rfl⟩
 |t tb M T k=>
  have j:=k.names;have f:op.length=2:=by rw[k.op];rfl
  cases R with
  |nil=>
   simp only[gU,ady,dt]at J;obtain⟨rfl,rfl⟩:=List.cons.inj J;right;right;refine⟨rfl,?_⟩;refine(oX h q (by rw[j,f];exact v13) (by omega)).mono ?_;rintro e o ⟨A,C,g,p⟩;exact⟨A,C,g,_,_,_,p,.e (by rw[k.op];rfl) k.whole,by omega,by omega⟩
  |cons r F=>
   have D:x::m=XS::(iI r++(gU F++[O0])):=by rw[J];simp[gU]
   obtain⟨rfl,rfl⟩:=List.cons.inj D;right;left;refine⟨rfl,?_⟩;have z:jL op (-1)=op:=by unfold jL;rw[aI (by omega)]
   refine(Cx h q 1 (-1) (by rw[j,f];exact v3) (by omega) (by omega) (by rw[j,f];exact v4) (by omega) tb T (by rw[z,k.op];rfl) k.h1 k.n1 G u (by rw[k.k1];simp) (by omega)).mono ?_;rintro e o ⟨A,C,x,v,g,K,p⟩;rw[z,k.op]at p;obtain⟨N,V,W⟩:=k.row K v;exact⟨A,C,g,_,_,_,p,.w [] [] r F tb x M N V [] W (by simp),by omega,by omega⟩
 |w X O L F tb tr M T V Z k y=>
  have am:O.length<=6:=by have:=hR.cells (O++L) (by rw[y];simp);simp at this;omega
  have a5:X.length<=6:=by have:=hR.rows;rw[y]at this;simp at this;omega
  have a9:Z.length<=6:=by rw[k.f1.1];simpa using a5
  have em:V.kids.length<=6:=by rw[k.f2.1];simpa using am
  cases L with
  |cons s L=>
   have D:x::m=tkD::(Y2 s::(iI L++(gU F++[O0]))):=by rw[J];simp[iI]
   obtain⟨rfl,rfl⟩:=List.cons.inj D;right;left;refine⟨rfl,?_⟩;have H:∀i:Int,jL op i=[root,tb,tr]->pS (dC S op) [eR] op.length=2->ju (dC S op) 2 eD op.length=i->i<=op.length->op.length<50->Calls tp 29 #[pt b,tkD.name,zn] w fun e o=>e=rQ/\Below B Q o/\∃g n d E,dD o B b g n d E/\Ph R E n root (Y2 s::(iI L++(gU F++[O0])))/\cnt<=d/\d<=cnt+1:=by
    intro i z b1 b2 b3 b4;refine(OY h q 2 i b1 (by omega) (by omega) b2 b3 tr V (by rw[z];rfl) k.h2 k.n2 G u (by omega) b4).mono ?_;rintro e o ⟨A,C,x,v,g,K,p⟩;rw[z]at p;obtain⟨I,P,hC⟩:=k.cell K v;exact⟨A,C,g,_,_,_,p,.c X O s L F tb tr x M T I P Z _ hC y,by omega,by omega⟩
   rcases k.names with⟨j,f⟩|⟨j,f⟩
   .have z:jL op (-1)=[root,tb,tr]:=by
     unfold jL;rw[aI (by omega)];rcases k.op with e|⟨Y,P,e,_⟩
     .exact e
     .rw[e]at f;simp at f
    exact H (-1) z (by rw[j,f];exact v9) (by rw[j,f];exact v10) (by omega) (by omega)
   .have z:jL op 3=[root,tb,tr]:=by
     unfold jL;rw[aS (by omega)];rcases k.op with e|⟨Y,P,e,_⟩
     .rw[e]at f;simp at f
     .rw[e];rfl
    exact H 3 z (by rw[j,f];exact v11) (by rw[j,f];exact v12) (by omega) (by omega)
  |nil=>
   cases F with
   |nil=>
    have D:x::m=[O0]:=by rw[J];simp[iI,gU]
    obtain⟨rfl,rfl⟩:=List.cons.inj D;right;right;refine⟨rfl,?_⟩;have hw:oY S root (pU R):=by rw[y];simpa using k.whole (by omega) (by omega)
    have h1:op.take 1=[root]:=by rcases k.op with e|⟨Y,P,e,_⟩<;>rw[e]<;>rfl
    rcases k.names with⟨j,f⟩|⟨j,f⟩
    .refine(oX h q (by rw[j,f];exact v14) (by omega)).mono ?_;rintro e o ⟨A,C,g,p⟩;exact⟨A,C,g,_,_,_,p,.e h1 hw,by omega,by omega⟩
    .refine(oX h q (by rw[j,f];exact v15) (by omega)).mono ?_;rintro e o ⟨A,C,g,p⟩;exact⟨A,C,g,_,_,_,p,.e h1 hw,by omega,by omega⟩
   |cons r F=>
    have D:x::m=XS::(iI r++(gU F++[O0])):=by rw[J];simp[iI,gU]
    obtain⟨rfl,rfl⟩:=List.cons.inj D;right;left;refine⟨rfl,?_⟩;have z:jL op 2=[root,tb]:=by
     unfold jL;rw[aS (by omega)];rcases k.op with e|⟨Y,P,e,_⟩<;>rw[e]<;>rfl
    have H:pS (dC S op) [eT] op.length=1->ju (dC S op) 1 eR op.length=2->(2:Int)<=op.length->op.length<50->Calls tp 29 #[pt b,XS.name,zn] w fun e o=>e=rQ/\Below B Q o/\∃g n d E,dD o B b g n d E/\Ph R E n root (iI r++(gU F++[O0]))/\cnt<=d/\d<=cnt+1:=by
     intro b1 b2 b3 b4;refine(Cx h q 1 2 b1 (by omega) (by omega) b2 b3 tb T (by rw[z];rfl) k.h1 k.n1 G u (by rw[k.k1];simp;omega) b4).mono ?_;rintro e o ⟨A,C,x,v,g,K,p⟩;rw[z]at p;obtain⟨N,I,W⟩:=k.row K v (by omega);exact⟨A,C,g,_,_,_,p,.w (X++[O]) [] r F tb x M N I _ W (by rw[y];simp),by omega,by omega⟩
    rcases k.names with⟨j,f⟩|⟨j,f⟩
    .exact H (by rw[j,f];exact v5) (by rw[j,f];exact v6) (by omega) (by omega)
    .exact H (by rw[j,f];exact v7) (by rw[j,f];exact v8) (by omega) (by omega)
 |c X O s L F tb tr Y M T V P Z qs k y=>
  obtain⟨rfl,rfl⟩:=List.cons.inj J;left;refine⟨rfl,hR.word (O++s::L) (by rw[y];simp) s (by simp),?_⟩;refine(KJ h q s Y P (by rw[k.op];rfl) k.h3 k.n3 k.k3 G u).mono ?_;rintro e o ⟨A,C,x,v,K,p⟩;obtain⟨I,W⟩:=k.word K v s;exact⟨A,C,ov,_,_,_,p,.w X (O++[s]) L F tb tr M T I Z W (by rw[y];simp),by omega,by omega⟩
 |e U hT=>cases J
def Cy:Array Value:=#[eO,eQ,zn,.pointer none,zn]
def Cz:Rec:=⟨zn,eO,eQ,.pointer none,[]⟩
def ep.Ph.done{S:Nat->Option Rec}{root:Nat}(h:Ph R S op root []):op=[root]/\oY S root (pU R):=by
 generalize j:([]:List Tk)=l at h;cases h with
 |a=>simp[kJ]at j
 |t=>simp at j
 |w=>simp at j
 |c=>simp at j
 |e A B=>exact⟨A,B⟩
def Sg{b:Nat}{d:Value}{a:Nat}(j:aE w b 95 #[d,zJ,false])(k:B<=b)(l:w.ownsRow B 88 1 d 1 [ptr a])(m:aE w a 92 Cy)(n:B<=a):dD w B b d [a] 1 (fun q=>if q=a then some Cz else none):=by
 have c:∀p r,(if p=a then some Cz else none)=some r->p=a/\r=Cz:=fun p r h=>by
  split at h
  .next e=>cases h;exact⟨e,rfl⟩
  .cases h
 refine⟨j,k,l,⟨fun p r h=>?_,fun p r h=>?_,fun p r h=>?_,fun p q r s h o f=>?_,fun p r h=>?_⟩,fun i p g=>?_,by simp,by simp⟩
 .obtain⟨rfl,rfl⟩:=c p r h;exact m
 .obtain⟨rfl,rfl⟩:=c p r h;exact dl _ _ _ _
 .obtain⟨rfl,rfl⟩:=c p r h;exact zF.Rl _
 .obtain⟨rfl,rfl⟩:=c p r h;obtain⟨e,_⟩:=c q s o;exact absurd e.symm f
 .obtain⟨rfl,rfl⟩:=c p r h;exact n
 .cases i with
  |zero=>simp at g;subst g;exact⟨Cz,by simp,rfl⟩
  |succ i=>simp at g
def KM(R:List (List ByteArray))(hR:gI R)(L:List Nd)(F D:List Int)(A:Option Addr)(c:Nat)(w:World)(hL:eU (-1) (-1) (pU R) []=L)(hb:uo L F)(hD:Deep L D)(T:L.length<=1000)(hT:(kJ R).length<=1000)(hA:dU w w A 5 Tk.cells (kJ R)):
 Calls tp 21 #[.slice A (kJ R).length c] w fun e w'=>∃s t,e=tQ #[.agg #[.slice s L.length t],zQ]/\Below w w w'/\w'.ownsRow w 121 9 (.slice s L.length t) L.length (L.flatMap Nd.cells):=by
 go_enter Tryz.func21,Tryz.ntmps21
 go_upto_region 1 with fail
 have hG:aE (w.alloc (.cells #[zn] 48)) w 48 #[zn]:=aE.new _ _ _;have hB:Below w w (w.alloc (.cells #[zn] 48)):=(Below.refl _ _).alloc (ae _) _;have hz:(w.alloc (.cells #[zn] 48)).heap.size=w.heap.size+1:=by simp
 obtain⟨l,C⟩:=iG w.heap.size;rw[<-C]at hG hB hz hA|-;generalize w.alloc (.cells #[zn] 48)=w0 at*;have pm:=hA.below hB;replace C:=aU C;have N:aE (w0.alloc (.cells Cy 92)) w0 92 Cy:=aE.new _ _ _;have U:Below (l+1) w0 (w0.alloc (.cells Cy 92)):=(Below.refl _ _).alloc (by omega) _;go_upto_region 2 with fail
 have p:(w0.alloc (.cells Cy 92)).heap.size=w0.heap.size+1:=by simp
 refine bM (fun Z=>aE Z w0 92 Cy/\Below (l+1) w0 Z/\Z.heap.size=w0.heap.size+1) ⟨N,U,p⟩ ?_;clear N U p;rintro m ⟨N,V,p⟩;have qr:l<l+1:=Nat.lt_succ_self _;rw[hz]at N p;have hz0:=aU hz;clear hz;generalize l+1=i at*;have G:i<=m.heap.size:=by omega
 replace p:=aU p;have hO:(m.alloc (.cells #[pt i] 88)).ownsRow i 88 1 (m.heap.size,1,1) 1 [pt i]:=Ez m 88 #[pt i] G (by simp[maxLen]);have W:=N.alloc (.cells #[pt i] 88);have X:=V.alloc G (.cells #[pt i] 88);have Y:(m.alloc (.cells #[pt i] 88)).heap.size=m.heap.size+1:=by simp
 go_upto_region 3 with fail
 have am:aE ((m.alloc (.cells #[pt i] 88)).alloc (.cells #[(m.heap.size,1,1),zJ,false] 95)) (m.heap.size+1) 95 #[(m.heap.size,1,1),zJ,false]:=aE.newAt _ _ _ Y.symm;have a5:=W.alloc (.cells #[(m.heap.size,1,1),zJ,false] 95);have a9:=hO.alloc (.cells #[(m.heap.size,1,1),zJ,false] 95);have n:=X.alloc (by omega) (.cells #[(m.heap.size,1,1),zJ,false] 95);have rg:i<=m.heap.size+1:=by omega
 have j:=Sg am rg a9 a5 (Nat.le_refl _);clear a5 a9 am W hO X N V Y;generalize (m.alloc (.cells #[pt i] 88)).alloc (.cells #[(m.heap.size,1,1),zJ,false] 95)=w3 at*;generalize em:m.heap.size+1=b at*;replace em:=aU em;have eq:Ph R (fun q=>if q=i then some Cz else none) [i] i (kJ R):=.a Cz rfl (by simp) rfl rfl rfl;go_wp2_with fail
 go_loopg [16] (kJ R).length (fun g un wr=>∃(k:Nat) (ov:Value) (op:List Nat) (cnt:Int) (S:Nat->Option Rec),g=(kJ R).length-k/\k<=(kJ R).length/\un=k/\dD wr i b ov op cnt S/\Below i w0 wr/\Hid (Ph R S op i ((kJ R).drop k))/\0<=cnt/\cnt<=k+1)
 case atStart=>exact⟨0,_,_,_,_,rfl,Nat.zero_le _,rfl,j,n,aU eq,by omega,by omega⟩
 case round=>
  clear j n eq;obtain⟨k,ov,op,cnt,S,rfl,O,rfl,j,n,I,ut,hc1⟩:=hrel;by_cases h:k<(kJ R).length
  .have e1:=lJ k ((kJ R).length) (by omega);obtain⟨b5,wl,x,wn,hb5,hx,ge⟩:=Sf (pm.below (n.mono (by omega))) h;subst wn;have u:(kJ R).drop k=x::(kJ R).drop (k+1):=by rw[bQ h];rw[af h]at hx;cases hx;rfl
   have ww:=aU (u▸I.out);clear hx u I;go_upto_region 5 with fail
   go_wp2_with (refine aX 97 rfl ?_)
   refine⟨bY rfl 97 _ rfl b5 (wl+k*5) rfl x.arr _ ge Tryz.underlying97 rfl (x4 _) ?_⟩;simp only[Act.put,zA,zB,zC];go_wp2_with (refine aX 97 rfl ?_)
   refine⟨dK x.arr rfl rfl rfl rfl (aE.new _ _ _) rfl (x4 _) (Y1 _) ?_⟩;intro P r J;simp only[Act.put,zA,zB,zC];have g7:=j.keep (fun q hq=>(J.other q (by omega)).trans (by first|exact aG _ _ hq|exact aG _ _ _ hq));have Do:=(n.alloc j.size _).trans (J.below j.size);generalize wr.heap.size=Q at*;clear J j n ge;have e9:IntKind.i64.wrap ((k:Int)+1)=((k+1:Nat):Int):=by rw[bE _ (by omega)];omega
   have K:=KL R hR i g7 Do ut (by omega) x _ ww.out;have cx1:P.cell? (Q,1)=x.name:=r.cell 1;have cx2:P.cell? (Q,2)=x.text:=r.cell 2;have cx3:P.cell? (Q,3)=zn:=r.cell 3;rcases K with⟨O,ht,f⟩|⟨O,f⟩|⟨O,f⟩
   .have g8:P.cell? Q=zJ:=by have:=r.cell 0;rw[this];show some (Value.int .i64 x.kind)=_;rw[O]
    go_upto_region 14 with(go_at_call 28;refine f.mono ?_;rintro e w6 ⟨rfl,v,y,z,d,S',o,B,ii,io⟩)
    have c6:w6.cell? (b,1)=d:=o.dJ.cell 1;have e4:decide ((4096:Int)<d)=false:=aA (by omega);go_wp2_with fail
    go_roundg ((kJ R).length-(k+1))
    case measure=>omega
    case rel=>exact⟨k+1,y,z,d,S',rfl,h,by first|rfl|go_num,o,v,aU B,by omega,by omega⟩
   .have g8:P.cell? Q=zZ:=by have:=r.cell 0;rw[this];show some (Value.int .i64 x.kind)=_;rw[O]
    go_upto_region 14 with(go_at_call 29;refine f.mono ?_;rintro e w6 ⟨rfl,v,y,z,d,S',o,B,ii,io⟩)
    have c6:w6.cell? (b,1)=d:=o.dJ.cell 1;have e4:decide ((4096:Int)<d)=false:=aA (by omega);go_wp2_with fail
    go_roundg ((kJ R).length-(k+1))
    case measure=>omega
    case rel=>exact⟨k+1,y,z,d,S',rfl,h,by first|rfl|go_num,o,v,aU B,by omega,by omega⟩
   .have g8:P.cell? Q=zY:=by have:=r.cell 0;rw[this];show some (Value.int .i64 x.kind)=_;rw[O]
    go_upto_region 14 with(go_at_call 30;refine f.mono ?_;rintro e w6 ⟨rfl,v,y,z,d,S',o,B,ii,io⟩)
    have c6:w6.cell? (b,1)=d:=o.dJ.cell 1;have e4:decide ((4096:Int)<d)=false:=aA (by omega);go_wp2_with fail
    go_roundg ((kJ R).length-(k+1))
    case measure=>omega
    case rel=>exact⟨k+1,y,z,d,S',rfl,h,by first|rfl|go_num,o,v,aU B,by omega,by omega⟩
  .have H1:k=(kJ R).length:=by omega
   subst H1;have ip:=I.out;rw[gZ]at ip;obtain⟨ho,In⟩:=ip.done;have cb2:wr.cell? (b,2)=false:=j.dJ.cell 2;have hn:=j.nodes;have i8:aE wr l 48 #[zn]:=hG.below n qr;have jp:=i8.lt;go_upto_region 19 with fail
   go_wp2_with (first
    |(go_at_call 32;refine(OZ wr i ov S hn In wr (Below.refl _ _)).mono ?_;rintro e w8 ⟨kv,rfl,E,UV⟩;have WF:=UV.is)
    |(go_at_call 31;refine(Sa L F D w8 WF hL hb hD T).mono ?_;rintro e H ⟨s,t,rfl,lw,mp⟩;have M:=(i8.below E jp).below lw (by have:=E.size;omega);have c9:H.cell? l=zn:=M.cell 0;have f9:=M.free 0))
   have hz8:=E.size;have hC:fp l H (H.setCell l (.slice s L.length t)):=fp.setCell H l (.slice s L.length t);have n6:aE (H.setCell l (.slice s L.length t)) l 48 #[.slice s L.length t]:=M.put 0 _;have WP:Below l w (H.setCell l (.slice s L.length t)):=(((hB.trans (n.mono (by omega))).trans (E.mono (by omega))).trans (lw.mono (by omega))).trans (hC.below (Nat.le_refl _));have hRf:=eW (aZ (w':=H.setCell l (.slice s L.length t)) mp (fun g hg _=>hC.other g (by have:=(mp.lt g hg).1;omega))) (show l<=w8.heap.size by omega);generalize H.setCell l (.slice s L.length t)=wf at*;refine ej (jU 3 2 48 l rfl zQ rfl rfl n6 _ Tryz.underlying48 rfl (by kernel_rfl)) rfl ?_;rw[<-C.out];exact⟨s,t,rfl,WP,hRf⟩
namespace ep
def nodesT(R:List (List ByteArray)):List Nd:=flat 0 (-1) (-1) (-1) (pU R)
def zL{α:Type}(f:α->Pt):∀(l:List α),(∀x∈l,R8 (f x))->ux (l.map f)
 |[],_=>by simp[ux]
 |x::l,h=>by
  rw[bV];unfold ux;exact⟨h x (by simp),zL f l fun y a=>h y (by simp[a])⟩
def zM{α:Type}(f:α->Pt)(m:Nat):∀(l:List α),(∀x∈l,hgt (f x)<=m)->EH (l.map f)<=m
 |[],_=>by simp[EH]
 |x::l,h=>by
  rw[bV];unfold EH;have b:=h x (by simp);have c:=zM f m l fun y a=>h y (by simp[a]);omega
def EM{α:Type}(f:α->Pt)(m:Nat):∀(l:List α),(∀x∈l,sz (f x)<=m)->x3 (l.map f)<=m*l.length
 |[],_=>by simp[x3]
 |x::l,h=>by
  rw[bV];unfold x3;have b:=h x (by simp);have c:=EM f m l fun y a=>h y (by simp[a]);rw[aW,NE];omega
def ne1:(ByteArray.mk #[116,100]).toList.isEmpty=false:=by decide+kernel
def ne2:(ByteArray.mk #[116,114]).toList.isEmpty=false:=by decide+kernel
def ne3:(ByteArray.mk #[116,97,98,108,101]).toList.isEmpty=false:=by decide+kernel
def ne4:(ByteArray.mk #[114,111,111,116]).toList.isEmpty=false:=by decide+kernel
def ne0:(ByteArray.mk #[]).toList.isEmpty=true:=by decide+kernel
def uB{s:ByteArray}(h:s.toList.isEmpty=false):R8 (iX s)/\hgt (iX s)<=2/\sz (iX s)<=2:=by
 refine⟨?_,?_,?_⟩
 .unfold iX R8;refine .inr ⟨ne1,?_⟩;unfold ux;refine⟨?_,by simp[ux]⟩;unfold R8;exact .inl ⟨ne0,h⟩
 .simp[iX,hgt,EH]
 .simp[iX,sz,x3,ne1,ne0]
def Y3{r:List ByteArray}(b:r.length<=6)(h:∀s∈r,s.toList.isEmpty=false):R8 (kg r)/\hgt (kg r)<=3/\sz (kg r)<=13:=by
 refine⟨?_,?_,?_⟩
 .unfold kg R8;exact .inr ⟨ne2,zL _ _ fun s a=>(uB (h s a)).1⟩
 .unfold kg hgt;have:=zM iX 2 r fun s a=>(uB (h s a)).2.1;omega
 .unfold kg sz;rw[aI (by simp[ne2])];have:=EM iX 2 r fun s a=>(uB (h s a)).2.2;omega
def Y4(h:gI R):ux [.mk eT eQ (R.map kg)]/\hgt (pU R)<=100/\sz (pU R)<=100:=by
 have a:=fun r a=>Y3 (h.cells r a) (h.word r a);have c:=zM kg 3 R fun r b=>(a r b).2.1;have d:=EM kg 13 R fun r b=>(a r b).2.2;have e:=h.rows;refine⟨?_,?_,?_⟩
 .unfold ux;refine⟨?_,by simp[ux]⟩;unfold R8;exact .inr ⟨ne3,zL _ _ fun r b=>(a r b).1⟩
 .simp only[pU,hgt,EH];omega
 .simp only[pU,sz,x3,ne3,ne4];simp;omega
def kx(h:gI R):(nodesT R).length<=100/\(∃a,uo (nodesT R) a)/\Deep (nodesT R) (Jq 1 (pU R)):=by
 obtain⟨c,d,e⟩:=Y4 h;have b:(nodesT R).length<=100:=by unfold nodesT;rw[dT];exact e
 refine⟨b,?_,?_⟩
 .exact KE _ _ _ ne4 c (Nat.le_trans b (by decide))
 .exact OX _ _ _ ne4 d
def O1(r:List ByteArray):(iI r).length=2*r.length:=by
 induction r with
 |nil=>rfl
 |cons s r ih=>simp[iI]at ih|-;omega
def O2(R:List (List ByteArray))(h:∀r∈R,r.length<=6):(gU R).length<=13*R.length:=by
 induction R with
 |nil=>simp[gU]
 |cons r R ih=>
  have b:=h r (by simp);have c:=ih fun x a=>h x (by simp[a]);have d:=O1 r;have e:gU (r::R)=XS::iI r++gU R:=by simp[gU]
  rw[e,List.length_append,aW,aW];omega
def H9(h:gI R):(kJ R).length<=100:=by
 have:=O2 R h.cells;have:=h.rows;simp[kJ];omega
end ep
def Ia(R:List (List ByteArray))(hR:gI R)(A:Option Addr)(c:Nat)(w:World)(g:dU w w A 5 Tk.cells (kJ R)):
 Calls tp 21 #[.slice A (kJ R).length c] w fun e b=>∃d f,e=tQ #[.agg #[.slice d (nodesT R).length f],zQ]/\Below w w b/\b.ownsRow w 121 9 (.slice d (nodesT R).length f) (nodesT R).length ((nodesT R).flatMap Nd.cells):=by
 obtain⟨j,⟨a,h⟩,i⟩:=kx hR;exact KM R hR (nodesT R) a _ A c w (by rw[Cq];rfl) h i (by omega) (by have:=H9 hR;omega) g
