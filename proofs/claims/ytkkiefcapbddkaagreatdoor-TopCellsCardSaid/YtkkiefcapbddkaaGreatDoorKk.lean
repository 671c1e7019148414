/- part of topCells.proved -/
import Derived.Test.YtkkiefcapbddkaaGreatDoorKg
set_option linter.all false
set_option maxRecDepth 1000000
set_option maxHeartbeats 0
noncomputable section
namespace Go.Proofs.YtkkiefcapbddkaaGreatDoor
open Go.RowKit Mem ep Num
variable{cnt:Int}{op:List Nat}{B b:Nat}{w:World}
namespace ep
def gP(w:World)(l:List ByteArray):EI (w.alloc (.cells (l.map Value.string).toArray 9)) w l:=fun _=>by
 refine⟨w.heap.size,0,rfl,fun i s a=>?_⟩;rw[bc,(aE.new w 9 (l.map Value.string).toArray).cell i];simp[a]
def Hm:ByteArray:=eO
def nTr:ByteArray:=eR
def nTd:ByteArray:=eD
def fG(name text:ByteArray):Rec:=⟨zn,name,text,.pointer none,[]⟩
def dD.V3{j:Value}{S:Nat->Option Rec}(h:dD w B b j op cnt S){x:Nat}(C:w.heap.size<=x):S x=none:=by
 cases A:S x with
 |none=>rfl
 |some r=>have:=(h.nodes.node x r A).lt;omega
def dD.push{w':World}{J A:Value}{S:Nat->Option Rec}{x c:Nat}{r:Rec}(h:dD w B b J op cnt S)(R:w'.ownsRow B 88 1 A (op.length+1) (op.map ptr++[ptr x]))(H:w.grownBy w' J.ownBlock)(T:jq w J A)
 (V:S x=some r)(W:r.above=ptr c)(L:op[op.length-1]? =some c)(X:op.length<50):dD (w'.setCell b A) B b A (op++[x]) cnt S:=by
 have I:=h.dJ.grown h.own H (by decide);have hC:fp b w' (w'.setCell b A):=fp.setCell w' b A;have C:∀{n:Nat} {v:Value} {O:List Value},w'.ownsRow B 88 1 v n O->(w'.setCell b A).ownsRow B 88 1 v n O:=fun P=>aZ P (fun g H _=>hC.other g fun e=>fM I P (by decide) (by rw[<-e];exact H.symm));have Q:=h.pos;refine⟨I.put 0 _,h.low,?_,⟨fun p r D=>?_,fun p r D=>?_,fun p r D=>?_,h.nodes.apart,h.nodes.low⟩,fun i p E=>?_,by simp,by simp;omega⟩
 .have:=C R;simpa using this
 .exact((h.nodes.node p r D).grown h.own H (by decide)).dA hC (fun e=>by subst e;have:=(h.nodes.node p r D).symm.trans h.dJ;simp at this)
 .exact C (gO (h.nodes.kids p r D) H (h.nodes.iD p r D))
 .exact zF.fresh (h.nodes.iD p r D) (h.nodes.kids p r D) T
 .by_cases M:i<op.length
  .rw[an M]at E;obtain⟨Y,Z,h2⟩:=h.ops i p E;refine⟨Y,Z,h2.trans ?_⟩;cases i with
   |zero=>rfl
   |succ j=>simp only[an (show j<op.length by omega)]
  .have N:i=op.length:=by have:=(aa.1 E).1;simp at this;omega
   subst N;rw[ay (ae _)]at E;simp at E;subst E;refine⟨r,V,W.trans ?_⟩;obtain⟨m,hm⟩:∃m,op.length=m+1:=⟨op.length-1,by omega⟩;rw[hm]at L|-;simp only[Nat.add_sub_cancel]at L;dsimp only;rw[an (by omega),L]
end ep
def rU(x:ByteArray)(w:World):Calls tp 69 #[x] w fun e a=>e=.returned (.bool (pQ x [⟨#[98,114]⟩,⟨#[104,114]⟩,⟨#[105,109,103]⟩,⟨#[105,110,112,117,116]⟩,⟨#[108,105,110,107]⟩,⟨#[109,101,116,97]⟩]))/\Below w w a:=by
 have b:Below w w (w.alloc (.cells (([⟨#[98,114]⟩,⟨#[104,114]⟩,⟨#[105,109,103]⟩,⟨#[105,110,112,117,116]⟩,⟨#[108,105,110,107]⟩,⟨#[109,101,116,97]⟩]:List ByteArray).map Value.string).toArray 9)):=(Below.refl _ _).alloc (ae _) _;go_enter Tryz.func69,Tryz.ntmps69
 go_wp2_with (go_at_call 59;refine(nt x [⟨#[98,114]⟩,⟨#[104,114]⟩,⟨#[105,109,103]⟩,⟨#[105,110,112,117,116]⟩,⟨#[108,105,110,107]⟩,⟨#[109,101,116,97]⟩] _ 6 _ (by decide) (gP w [⟨#[98,114]⟩,⟨#[104,114]⟩,⟨#[105,109,103]⟩,⟨#[105,110,112,117,116]⟩,⟨#[108,105,110,107]⟩,⟨#[109,101,116,97]⟩])).mono ?_;rintro e c ⟨rfl,rfl⟩)
 go_ret
 exact⟨rfl,b⟩
def tl(x:ByteArray)(w:World):Calls tp 65 #[x] w fun e a=>e=.returned (.bool (pQ x [⟨#[100,105,118]⟩,eP,⟨#[117,108]⟩,⟨#[108,105]⟩,⟨#[104,49]⟩,eT]))/\Below w w a:=by
 have b:Below w w (w.alloc (.cells (([⟨#[100,105,118]⟩,eP,⟨#[117,108]⟩,⟨#[108,105]⟩,⟨#[104,49]⟩,eT]:List ByteArray).map Value.string).toArray 9)):=(Below.refl _ _).alloc (ae _) _;go_enter Tryz.func65,Tryz.ntmps65
 go_wp2_with (go_at_call 59;refine(nt x [⟨#[100,105,118]⟩,eP,⟨#[117,108]⟩,⟨#[108,105]⟩,⟨#[104,49]⟩,eT] _ 6 _ (by decide) (gP w [⟨#[100,105,118]⟩,eP,⟨#[117,108]⟩,⟨#[108,105]⟩,⟨#[104,49]⟩,eT])).mono ?_;rintro e c ⟨rfl,rfl⟩)
 go_ret
 exact⟨rfl,b⟩
def H6(x:ByteArray)(w:World):Calls tp 73 #[x] w fun e a=>e=.returned (.bool (pQ x [⟨#[97]⟩,⟨#[98]⟩,⟨#[101,109]⟩,⟨#[105]⟩,⟨#[117]⟩]))/\Below w w a:=by
 have b:Below w w (w.alloc (.cells (([⟨#[97]⟩,⟨#[98]⟩,⟨#[101,109]⟩,⟨#[105]⟩,⟨#[117]⟩]:List ByteArray).map Value.string).toArray 9)):=(Below.refl _ _).alloc (ae _) _;go_enter Tryz.func73,Tryz.ntmps73
 go_wp2_with (go_at_call 59;refine(nt x [⟨#[97]⟩,⟨#[98]⟩,⟨#[101,109]⟩,⟨#[105]⟩,⟨#[117]⟩] _ 5 _ (by decide) (gP w [⟨#[97]⟩,⟨#[98]⟩,⟨#[101,109]⟩,⟨#[105]⟩,⟨#[117]⟩])).mono ?_;rintro e c ⟨rfl,rfl⟩)
 go_ret
 exact⟨rfl,b⟩
def V4:pQ eR [eR,eD]=true:=by decide+kernel
def zH:pQ eT [⟨#[98,114]⟩,⟨#[104,114]⟩,⟨#[105,109,103]⟩,⟨#[105,110,112,117,116]⟩,⟨#[108,105,110,107]⟩,⟨#[109,101,116,97]⟩]=false:=by decide+kernel
def Bs{s:World}{t:Value}{S:Nat->Option Rec}(h:dD w B b t op cnt S)(M:Below B s w)(c:Nat)(i:Rec)(hop:op[op.length-1]? =some c)(hc:S c=some i)(o:i.name=eO)
 (N:0<=cnt)(u:cnt<=3000)(O:i.kids.length<=1000)(P:op.length<50):
 Calls tp 68 #[pt b,eT,zn] w fun e w'=>e=rQ/\Below B s w'/\∃x d p,S x=none/\dD w' B b p (op++[x]) (cnt+1) (jb S x c (fG eT eQ) i d):=by
 obtain⟨i0,hi,Q,R,T⟩:=info_parts mJ;have U:=aU o;go_enter Tryz.func68,Tryz.ntmps68
 go_upto_region 2 with(go_at_call 60;refine(iF h.opAt c hop).mono ?_;rintro e V ⟨rfl,v⟩;have y:=h.drawn v;have q1:V.cell? c=eO:=((y.nodes.node c i hc).cell 0).trans (by show some (Value.string i.name)=_;rw[U.out]))
 have W:=M.trans (v.below _);go_upto_region 4 with fail
 have X:dD V B b t op cnt S:=y;have Y:Below B s V:=W;refine bM (fun Z=>dD Z B b t op cnt S/\Below B s Z) ⟨X,Y⟩ ?_;rintro q ⟨j,am⟩;have L:aE (q.alloc (.cells (fG eT eQ).arr 92)) q 92 (fG eT eQ).arr:=aE.new _ _ _;have l:dD (q.alloc (.cells (fG eT eQ).arr 92)) B b t op cnt S:=j.keep (fun k z=>by first|exact aG _ _ _ z|exact aG _ _ z);have m:Below B s (q.alloc (.cells (fG eT eQ).arr 92)):=am.alloc j.size _;have A:=j.V3 (Nat.le_refl _);have a5:=j.size;simp only[fG,Rec.arr]at L l m;go_upto_region 5 with(go_at_call 77;refine(rR q).mono ?_;rintro e w2 ⟨rfl,rfl⟩)
 refine bM (fun Z=>aE Z q 92 (fG eT eQ).arr/\dD Z B b t op cnt S/\Below B s Z) ⟨L,l,m⟩ ?_;rintro w4 ⟨L,l,m⟩;generalize q.heap.size=x at*;go_upto_region 6 with(go_at_call 64;refine(uA l m x c (fG eT eQ) i L rfl rfl A a5 hop hc N u O).mono ?_;rintro e w5 ⟨rfl,a9,d,C⟩)
 go_upto_region 7 with(go_at_call 69;refine(rU eT w5).mono ?_;rw[zH];rintro e w6 ⟨rfl,D⟩)
 have f:=C.under D;have E:=a9.trans (D.mono C.size);have em:jb S x c (fG eT eQ) i d x=some {fG eT eQ with above:=ptr c}:=lE _ _ _;generalize eq:jb S x c (fG eT eQ) i d=S' at*;obtain⟨A1,c1,rfl,-⟩:=aV f.own;have cb:=f.dJ.cell 0;go_wp2_with (refine cR _ _ _ _ rfl ?_)
 have a:dD (w6.alloc (.cells #[pt x] 88)) B b (.slice A1 op.length c1) op (cnt+1) S':=f.keep (fun k z=>by first|exact aG _ _ _ z|exact aG _ _ z);have F:=E.alloc f.size (.cells #[pt x] 88);have G:=df (aE.new w6 88 #[pt x]) (news:=[pt x]) rfl;refine⟨bD _ rfl (.tmp 48) (.tmp 50) 90 rfl B 88 i0 (.pointer none) 1 8 p9 hi Q R T rfl (by decide) (.slice A1 op.length c1) op.length _ rfl a.own w6 1 1 [pt x] rfl rfl G (by simp[Value.oneCell']) (by unfold maxLen;omega) (by omega) a.size ?_⟩;intro p w9 r n H;have ge:=a.push (x:=x) (c:=c) r n H em rfl hop P;have g:=a.dJ.grown a.own n (by decide);have g7:=g.cell 0;have g8:=g.free 0;have I:=dw F a.own n (Nat.le_refl _) a.size;have J:=fp.setCell w9 b p;have K:=I.trans (J.below a.low);obtain⟨A2,c2,rfl,-⟩:=aV r;clear a F f E r n H g I J G cb;go_wp2_with fail
 exact cP (cL rfl _ _ _) rfl ⟨rfl,K,x,d,_,A,by rw[eq];exact ge⟩
def V5:pQ eR [⟨#[98,114]⟩,⟨#[104,114]⟩,⟨#[105,109,103]⟩,⟨#[105,110,112,117,116]⟩,⟨#[108,105,110,107]⟩,⟨#[109,101,116,97]⟩]=false:=by decide+kernel
def KH{u:World}{v:Value}{S:Nat->Option Rec}(h:dD w B b v op cnt S)(N:Below B u w)(c:Nat)(i:Rec)(hop:op[op.length-1]? =some c)(hc:S c=some i)(p:i.name=eT)
 (O:0<=cnt)(y:cnt<=3000)(P:i.kids.length<=1000)(Q:op.length<50):
 Calls tp 68 #[pt b,eR,zn] w fun e w'=>e=rQ/\Below B u w'/\∃x d q,S x=none/\dD w' B b q (op++[x]) (cnt+1) (jb S x c (fG eR eQ) i d):=by
 obtain⟨i0,hi,R,T,U⟩:=info_parts mJ;have V:=aU p;go_enter Tryz.func68,Tryz.ntmps68
 go_upto_region 2 with(go_at_call 60;refine(iF h.opAt c hop).mono ?_;rintro e L ⟨rfl,z⟩;have r:=h.drawn z;have q1:L.cell? c=eT:=((r.nodes.node c i hc).cell 0).trans (by show some (Value.string i.name)=_;rw[V.out]))
 have W:=N.trans (z.below _);go_upto_region 4 with(go_at_call 59;refine(nt eR [eR,eD] _ 2 _ (by decide) (gP L [eR,eD])).mono ?_;rw[V4];rintro e w2 ⟨rfl,rfl⟩)
 have X:dD (L.alloc (.cells (([eR,eD]:List ByteArray).map Value.string).toArray 9)) B b v op cnt S:=r.keep (fun k o=>by first|exact aG _ _ _ o|exact aG _ _ o);have Y:Below B u (L.alloc (.cells (([eR,eD]:List ByteArray).map Value.string).toArray 9)):=W.alloc r.size _;refine bM (fun Z=>dD Z B b v op cnt S/\Below B u Z) ⟨X,Y⟩ ?_;rintro s ⟨j,am⟩;have M:aE (s.alloc (.cells (fG eR eQ).arr 92)) s 92 (fG eR eQ).arr:=aE.new _ _ _;have l:dD (s.alloc (.cells (fG eR eQ).arr 92)) B b v op cnt S:=j.keep (fun k o=>by first|exact aG _ _ _ o|exact aG _ _ o);have m:Below B u (s.alloc (.cells (fG eR eQ).arr 92)):=am.alloc j.size _;have A:=j.V3 (Nat.le_refl _);have a5:=j.size;simp only[fG,Rec.arr]at M l m;go_upto_region 5 with(go_at_call 77;refine(rR s).mono ?_;rintro e w2 ⟨rfl,rfl⟩)
 refine bM (fun Z=>aE Z s 92 (fG eR eQ).arr/\dD Z B b v op cnt S/\Below B u Z) ⟨M,l,m⟩ ?_;rintro w4 ⟨M,l,m⟩;generalize s.heap.size=x at*;go_upto_region 6 with(go_at_call 64;refine(uA l m x c (fG eR eQ) i M rfl rfl A a5 hop hc O y P).mono ?_;rintro e w5 ⟨rfl,a9,d,C⟩)
 go_upto_region 7 with(go_at_call 69;refine(rU eR w5).mono ?_;rw[V5];rintro e w6 ⟨rfl,D⟩)
 have f:=C.under D;have E:=a9.trans (D.mono C.size);have em:jb S x c (fG eR eQ) i d x=some {fG eR eQ with above:=ptr c}:=lE _ _ _;generalize eq:jb S x c (fG eR eQ) i d=S' at*;obtain⟨A1,c1,rfl,-⟩:=aV f.own;have cb:=f.dJ.cell 0;go_wp2_with (refine cR _ _ _ _ rfl ?_)
 have a:dD (w6.alloc (.cells #[pt x] 88)) B b (.slice A1 op.length c1) op (cnt+1) S':=f.keep (fun k o=>by first|exact aG _ _ _ o|exact aG _ _ o);have F:=E.alloc f.size (.cells #[pt x] 88);have G:=df (aE.new w6 88 #[pt x]) (news:=[pt x]) rfl;refine⟨bD _ rfl (.tmp 48) (.tmp 50) 90 rfl B 88 i0 (.pointer none) 1 8 p9 hi R T U rfl (by decide) (.slice A1 op.length c1) op.length _ rfl a.own w6 1 1 [pt x] rfl rfl G (by simp[Value.oneCell']) (by unfold maxLen;omega) (by omega) a.size ?_⟩;intro q w9 t n H;have ge:=a.push (x:=x) (c:=c) t n H em rfl hop Q;have g:=a.dJ.grown a.own n (by decide);have g7:=g.cell 0;have g8:=g.free 0;have I:=dw F a.own n (Nat.le_refl _) a.size;have J:=fp.setCell w9 b q;have K:=I.trans (J.below a.low);obtain⟨A2,c2,rfl,-⟩:=aV t;clear a F f E t n H g I J G cb;go_wp2_with fail
 exact cP (cL rfl _ _ _) rfl ⟨rfl,K,x,d,_,A,by rw[eq];exact ge⟩
def V6:pQ eD [⟨#[98,114]⟩,⟨#[104,114]⟩,⟨#[105,109,103]⟩,⟨#[105,110,112,117,116]⟩,⟨#[108,105,110,107]⟩,⟨#[109,101,116,97]⟩]=false:=by decide+kernel
def KI{s:World}{t:Value}{S:Nat->Option Rec}(h:dD w B b t op cnt S)(M:Below B s w)(c:Nat)(i:Rec)(hop:op[op.length-1]? =some c)(hc:S c=some i)(o:i.name=eR)
 (N:0<=cnt)(u:cnt<=3000)(O:i.kids.length<=1000)(P:op.length<50):
 Calls tp 68 #[pt b,eD,zn] w fun e w'=>e=rQ/\Below B s w'/\∃x d p,S x=none/\dD w' B b p (op++[x]) (cnt+1) (jb S x c (fG eD eQ) i d):=by
 obtain⟨i0,hi,Q,R,T⟩:=info_parts mJ;have U:=aU o;go_enter Tryz.func68,Tryz.ntmps68
 go_upto_region 2 with(go_at_call 60;refine(iF h.opAt c hop).mono ?_;rintro e V ⟨rfl,v⟩;have y:=h.drawn v;have q1:V.cell? c=eR:=((y.nodes.node c i hc).cell 0).trans (by show some (Value.string i.name)=_;rw[U.out]))
 have W:=M.trans (v.below _);go_upto_region 4 with fail
 have X:dD V B b t op cnt S:=y;have Y:Below B s V:=W;refine bM (fun Z=>dD Z B b t op cnt S/\Below B s Z) ⟨X,Y⟩ ?_;rintro q ⟨j,am⟩;have L:aE (q.alloc (.cells (fG eD eQ).arr 92)) q 92 (fG eD eQ).arr:=aE.new _ _ _;have l:dD (q.alloc (.cells (fG eD eQ).arr 92)) B b t op cnt S:=j.keep (fun k z=>by first|exact aG _ _ _ z|exact aG _ _ z);have m:Below B s (q.alloc (.cells (fG eD eQ).arr 92)):=am.alloc j.size _;have A:=j.V3 (Nat.le_refl _);have a5:=j.size;simp only[fG,Rec.arr]at L l m;go_upto_region 5 with(go_at_call 77;refine(rR q).mono ?_;rintro e w2 ⟨rfl,rfl⟩)
 refine bM (fun Z=>aE Z q 92 (fG eD eQ).arr/\dD Z B b t op cnt S/\Below B s Z) ⟨L,l,m⟩ ?_;rintro w4 ⟨L,l,m⟩;generalize q.heap.size=x at*;go_upto_region 6 with(go_at_call 64;refine(uA l m x c (fG eD eQ) i L rfl rfl A a5 hop hc N u O).mono ?_;rintro e w5 ⟨rfl,a9,d,C⟩)
 go_upto_region 7 with(go_at_call 69;refine(rU eD w5).mono ?_;rw[V6];rintro e w6 ⟨rfl,D⟩)
 have f:=C.under D;have E:=a9.trans (D.mono C.size);have em:jb S x c (fG eD eQ) i d x=some {fG eD eQ with above:=ptr c}:=lE _ _ _;generalize eq:jb S x c (fG eD eQ) i d=S' at*;obtain⟨A1,c1,rfl,-⟩:=aV f.own;have cb:=f.dJ.cell 0;go_wp2_with (refine cR _ _ _ _ rfl ?_)
 have a:dD (w6.alloc (.cells #[pt x] 88)) B b (.slice A1 op.length c1) op (cnt+1) S':=f.keep (fun k z=>by first|exact aG _ _ _ z|exact aG _ _ z);have F:=E.alloc f.size (.cells #[pt x] 88);have G:=df (aE.new w6 88 #[pt x]) (news:=[pt x]) rfl;refine⟨bD _ rfl (.tmp 48) (.tmp 50) 90 rfl B 88 i0 (.pointer none) 1 8 p9 hi Q R T rfl (by decide) (.slice A1 op.length c1) op.length _ rfl a.own w6 1 1 [pt x] rfl rfl G (by simp[Value.oneCell']) (by unfold maxLen;omega) (by omega) a.size ?_⟩;intro p w9 r n H;have ge:=a.push (x:=x) (c:=c) r n H em rfl hop P;have g:=a.dJ.grown a.own n (by decide);have g7:=g.cell 0;have g8:=g.free 0;have I:=dw F a.own n (Nat.le_refl _) a.size;have J:=fp.setCell w9 b p;have K:=I.trans (J.below a.low);obtain⟨A2,c2,rfl,-⟩:=aV r;clear a F f E r n H g I J G cb;go_wp2_with fail
 exact cP (cL rfl _ _ _) rfl ⟨rfl,K,x,d,_,A,by rw[eq];exact ge⟩
def V7:pQ eD [eT,eR]=false:=by decide+kernel
def H7:pQ eT [⟨#[100,105,118]⟩,eP,⟨#[117,108]⟩,⟨#[108,105]⟩,⟨#[104,49]⟩,eT]=true:=by decide+kernel
def Sc:pQ eR [⟨#[100,105,118]⟩,eP,⟨#[117,108]⟩,⟨#[108,105]⟩,⟨#[104,49]⟩,eT]=false:=by decide+kernel
def Sd:pQ eD [⟨#[100,105,118]⟩,eP,⟨#[117,108]⟩,⟨#[108,105]⟩,⟨#[104,49]⟩,eT]=false:=by decide+kernel
def KJ{n:World}{o:Value}{S:Nat->Option Rec}(h:dD w B b o op cnt S)(A:Below B n w)(s:ByteArray)(c:Nat)(a:Rec)(hop:op[op.length-1]? =some c)(y:S c=some a)(g:a.name=eD)(p:a.kids=[])
 (C:0<=cnt)(q:cnt<=3000):
 Calls tp 28 #[pt b,s] w fun e P=>e=rQ/\Below B n P/\∃x i,S x=none/\dD P B b o op (cnt+1) (jb S x c (fG eQ s) a i):=by
 have D:=aU g;have Q:∀w,(binOp .neq 88 (.pointer none) (.pointer none)).run tp w=.ok false w:=fun w=>by kernel_rfl
 have E:a.kids.length<=1000:=by rw[p];simp
 go_enter Tryz.func28,Tryz.ntmps28
 go_upto_region 4 with(first
  |(go_at_call 60;refine(iF h.opAt c hop).mono ?_;rintro e z ⟨rfl,r⟩;have j:=h.drawn r;have V:z.cell? c=eD:=((j.nodes.node c a y).cell 0).trans (by show some (Value.string a.name)=_;rw[D.out]))
  |(go_at_call 59;refine(nt eD [eT,eR] _ 2 _ (by decide) (gP z [eT,eR])).mono ?_;rw[V7];rintro e W ⟨rfl,rfl⟩))
 have F:=A.trans (r.below _);have G:dD (z.alloc (.cells (([eT,eR]:List ByteArray).map Value.string).toArray 9)) B b o op cnt S:=j.keep (fun k t=>by first|exact aG _ _ _ t|exact aG _ _ t);have H:Below B n (z.alloc (.cells (([eT,eR]:List ByteArray).map Value.string).toArray 9)):=F.alloc j.size _;refine bM (fun Z=>dD Z B b o op cnt S/\Below B n Z) ⟨G,H⟩ ?_;rintro X ⟨l,I⟩;obtain⟨R,T,d,-⟩:=aV (l.nodes.kids c a y);rw[p]at d;simp only[eJ]at d;replace d:=aU d;go_upto_region 5 with(go_at_call 60;refine(iF l.opAt c hop).mono ?_;rintro e m ⟨rfl,u⟩;have f:=l.drawn u;have Y:m.cell? (c,4)=some (.slice R 0 T):=((f.nodes.node c a y).cell 4).trans (by show some a.kv=_;rw[d.out]))
 have J:=I.trans (u.below _);go_upto_region 11 with fail
 have U:aE (m.alloc (.cells (fG eQ s).arr 92)) m 92 (fG eQ s).arr:=aE.new _ _ _;have K:dD (m.alloc (.cells (fG eQ s).arr 92)) B b o op cnt S:=f.keep (fun k t=>by first|exact aG _ _ _ t|exact aG _ _ t);have L:Below B n (m.alloc (.cells (fG eQ s).arr 92)):=J.alloc f.size _;have v:=f.V3 (Nat.le_refl _);have M:=f.size;go_wp2_with (go_at_call 64;refine(uA K L m c (fG eQ s) a U rfl rfl v M hop y C q E).mono ?_;rintro e w5 ⟨rfl,N,i,O⟩)
 exact cP (cL rfl _ _ _) rfl ⟨rfl,N,_,i,v,O⟩
def EJ{o:World}{I:Value}{S:Nat->Option Rec}(h:dD w B b I op cnt S)(p:Below B o w)(v i:Int)(N:pS (dC S op) [eD] op.length=v)(q:0<=v)(r:v<=1000)
 (O:ju (dC S op) v eP op.length=i)(s:i<=op.length)(c:Nat)(g:Rec)(hop:(jL op i)[(jL op i).length-1]? =some c)(P:S c=some g)(a:g.name=eO)(t:0<=cnt)(j:cnt<=3000)(u:g.kids.length<=1000)(Q:op.length<50):
 Calls tp 29 #[pt b,eT,zn] w fun e J=>e=rQ/\Below B o J/\∃x d f,S x=none/\dD J B b f (jL op i++[x]) (cnt+1) (jb S x c (fG eT eQ) g d):=by
 have l:(dC S op).length=op.length:=by simp[dC]
 have m:(jL op i).length<50:=by unfold jL;split<;>(try simp only[aN])<;>omega
 have y:=aU a;go_enter Tryz.func29,Tryz.ntmps29
 go_upto_region 1 with(go_at_call 65;refine(tl eT w).mono ?_;rw[H7];rintro e z ⟨rfl,n⟩)
 have K:=h.under n;have A:=p.trans (n.mono h.size);have L:dD (z.alloc (.cells (([eD]:List ByteArray).map Value.string).toArray 9)) B b I op cnt S:=K.keep (fun k M=>by first|exact aG _ _ _ M|exact aG _ _ M);have C:Below B o (z.alloc (.cells (([eD]:List ByteArray).map Value.string).toArray 9)):=A.alloc K.size _;go_upto_region 2 with(first
  |(go_at_call 67;refine(uz L.opAt [eD] _ 1 (by decide) (gP z [eD])).mono ?_;rw[l,N];rintro e U ⟨rfl,rfl⟩)
  |(go_at_call 66;refine(kU L v eP q r i O s).mono ?_;rintro e V ⟨rfl,D,R,T⟩))
 have E:=C.trans D;go_wp2_with (go_at_call 68;refine(Bs T E c g hop P y.out t j u m).mono ?_;rintro e W ⟨rfl,F,x,d,f,G,H⟩)
 exact cP (cL rfl _ _ _) rfl ⟨rfl,F,x,d,f,G,H⟩
def Cx{o:World}{I:Value}{S:Nat->Option Rec}(h:dD w B b I op cnt S)(p:Below B o w)(v i:Int)(N:pS (dC S op) [eT] op.length=v)(q:0<=v)(r:v<=1000)
 (O:ju (dC S op) v eR op.length=i)(s:i<=op.length)(c:Nat)(g:Rec)(hop:(jL op i)[(jL op i).length-1]? =some c)(P:S c=some g)(a:g.name=eT)(t:0<=cnt)(j:cnt<=3000)(u:g.kids.length<=1000)(Q:op.length<50):
 Calls tp 29 #[pt b,eR,zn] w fun e J=>e=rQ/\Below B o J/\∃x d f,S x=none/\dD J B b f (jL op i++[x]) (cnt+1) (jb S x c (fG eR eQ) g d):=by
 have l:(dC S op).length=op.length:=by simp[dC]
 have m:(jL op i).length<50:=by unfold jL;split<;>(try simp only[aN])<;>omega
 have y:=aU a;go_enter Tryz.func29,Tryz.ntmps29
 go_upto_region 6 with(go_at_call 65;refine(tl eR w).mono ?_;rw[Sc];rintro e z ⟨rfl,n⟩)
 have K:=h.under n;have A:=p.trans (n.mono h.size);have L:dD (z.alloc (.cells (([eT]:List ByteArray).map Value.string).toArray 9)) B b I op cnt S:=K.keep (fun k M=>by first|exact aG _ _ _ M|exact aG _ _ M);have C:Below B o (z.alloc (.cells (([eT]:List ByteArray).map Value.string).toArray 9)):=A.alloc K.size _;go_upto_region 7 with(first
  |(go_at_call 67;refine(uz L.opAt [eT] _ 1 (by decide) (gP z [eT])).mono ?_;rw[l,N];rintro e U ⟨rfl,rfl⟩)
  |(go_at_call 66;refine(kU L v eR q r i O s).mono ?_;rintro e V ⟨rfl,D,R,T⟩))
 have E:=C.trans D;go_wp2_with (go_at_call 68;refine(KH T E c g hop P y.out t j u m).mono ?_;rintro e W ⟨rfl,F,x,d,f,G,H⟩)
 exact cP (cL rfl _ _ _) rfl ⟨rfl,F,x,d,f,G,H⟩
def OY{u:World}{L:Value}{S:Nat->Option Rec}(h:dD w B b L op cnt S)(y:Below B u w)(v i:Int)(R:pS (dC S op) [eR] op.length=v)(z:0<=v)(A:v<=1000)
 (T:ju (dC S op) v eD op.length=i)(C:i<=op.length)(c:Nat)(a:Rec)(hop:(jL op i)[(jL op i).length-1]? =some c)(M:S c=some a)(d:a.name=eR)(D:0<=cnt)(m:cnt<=3000)(E:a.kids.length<=1000)(U:op.length<50):
 Calls tp 29 #[pt b,eD,zn] w fun e N=>e=rQ/\Below B u N/\∃x f g,S x=none/\dD N B b g (jL op i++[x]) (cnt+1) (jb S x c (fG eD eQ) a f):=by
 have n:(dC S op).length=op.length:=by simp[dC]
 have o:(jL op i).length<50:=by unfold jL;split<;>(try simp only[aN])<;>omega
 have p:=aU d;go_enter Tryz.func29,Tryz.ntmps29
 go_upto_region 8 with(go_at_call 65;refine(tl eD w).mono ?_;rw[Sd];rintro e F ⟨rfl,q⟩)
 have O:=h.under q;have G:=y.trans (q.mono h.size);have P:dD (F.alloc (.cells (([eR]:List ByteArray).map Value.string).toArray 9)) B b L op cnt S:=O.keep (fun k Q=>by first|exact aG _ _ _ Q|exact aG _ _ Q);have H:Below B u (F.alloc (.cells (([eR]:List ByteArray).map Value.string).toArray 9)):=G.alloc O.size _;go_upto_region 9 with(first
  |(go_at_call 67;refine(uz P.opAt [eR] _ 1 (by decide) (gP F [eR])).mono ?_;rw[n,R];rintro e X ⟨rfl,rfl⟩)
  |(go_at_call 66;refine(kU P v eD z A i T C).mono ?_;rintro e Y ⟨rfl,I,V,t⟩))
 have j:=H.trans I;go_upto_region 11 with(go_at_call 60;refine(iF t.opAt c hop).mono ?_;rintro e W ⟨rfl,r⟩;have s:=t.drawn r;have Z:W.cell? c=eR:=((s.nodes.node c a M).cell 0).trans (by show some (Value.string a.name)=_;rw[p.out]))
 have l:=j.trans (r.below _);have t:=s;have j:=l;go_wp2_with (go_at_call 68;refine(KI t j c a hop M p.out D m E o).mono ?_;rintro e w5 ⟨rfl,l,x,f,g,J,K⟩)
 exact cP (cL rfl _ _ _) rfl ⟨rfl,l,x,f,g,J,K⟩
def H8:pQ eT [eD,eR,eT]=true:=by decide+kernel
def EK:pQ eT [⟨#[97]⟩,⟨#[98]⟩,⟨#[101,109]⟩,⟨#[105]⟩,⟨#[117]⟩]=false:=by decide+kernel
def KK(g o m c:Nat)(a:List Value)(w:World)(B:a.length=m)(n:m<=100)(p:∀u∈a,u.oneCell'=true)(q:∀(j:Nat) u,a[j]? =some u->w.cell? (g,o+j)=some u)(r:g<w.heap.size):
 Calls tp 72 #[(g,o,m,c)] w fun e s=>(∃v,e=.returned v)/\Below w w s:=by
 obtain⟨t,x,b,d,f⟩:=info_parts mJ;have C:(binOp .eql 90 (g,o,m,c) zn).run tp w=.ok false w:=by kernel_rfl
 have l:(w.alloc (.cells #[] 88)).ownsRow w 88 1 (w.heap.size,0,0) 0 []:=Ez w 88 #[] (Nat.le_refl _) (by decide);have y:Below w w (w.alloc (.cells #[] 88)):=(Below.refl _ _).alloc (ae _) _;have h:∀j u,a[j]? =some u->(w.alloc (.cells #[] 88)).cell? (((g,o):Addr).add j)=some u:=fun j u z=>by
  rw[Addr.add_mid,<-q j u z];exact Dg w _ _ r
 go_enter Tryz.func72,Tryz.ntmps72
 go_wp2_with (refine cR _ _ _ _ rfl ?_)
 refine⟨eC _ rfl (.tmp 5) (.tmp 6) 90 rfl w 88 t (.pointer none) 1 8 p9 x b d f rfl (by decide) (w.heap.size,0,0) 0 _ rfl l (g,o) m c a rfl (by omega) h p (by unfold maxLen;omega) (by omega) (by simp) ?_⟩;intro D E A i _;have k:=dw y l i (Nat.le_refl _) (by simp);go_wp2_with fail
 go_ret
 exact⟨⟨_,rfl⟩,k⟩
def oX{n:World}{q:Value}{S:Nat->Option Rec}(h:dD w B b q op cnt S)(y:Below B n w)(V:ju (dC S op) 0 eT op.length=1)(z:2<=op.length):
 Calls tp 30 #[pt b,eT] w fun e O=>e=rQ/\Below B n O/\∃d,dD O B b d (op.take 1) cnt S:=by
 have a:(dC S op).length=op.length:=by simp[dC]
 have f:=h.le;go_enter Tryz.func30,Tryz.ntmps30
 go_upto_region 1 with(go_at_call 69;refine(rU eT w).mono ?_;rw[zH];rintro e A ⟨rfl,r⟩)
 have P:=h.under r;have C:=y.trans (r.mono h.size);have s:dD (A.alloc (.cells (([eD]:List ByteArray).map Value.string).toArray 9)) B b q op cnt S:=P.keep (fun k t=>by first|exact aG _ _ _ t|exact aG _ _ t);have i:Below B n (A.alloc (.cells (([eD]:List ByteArray).map Value.string).toArray 9)):=C.alloc P.size _;obtain⟨Q,D⟩:∃Q,pS (dC S op) [eD] op.length=Q:=⟨_,rfl⟩;go_upto_region 2 with(go_at_call 67;refine(uz s.opAt [eD] _ 1 (by decide) (gP A [eD])).mono ?_;rw[a,D];rintro e w2 ⟨rfl,rfl⟩)
 refine bM (fun Z=>dD Z B b q op cnt S/\Below B n Z) ⟨s,i⟩ ?_;rintro E ⟨s,i⟩;have X:dD (E.alloc (.cells (([eD,eR,eT]:List ByteArray).map Value.string).toArray 9)) B b q op cnt S:=s.keep (fun k t=>by first|exact aG _ _ _ t|exact aG _ _ t);have F:Below B n (E.alloc (.cells (([eD,eR,eT]:List ByteArray).map Value.string).toArray 9)):=i.alloc s.size _;go_upto_region 3 with(go_at_call 59;refine(nt eT [eD,eR,eT] _ 3 _ (by decide) (gP E [eD,eR,eT])).mono ?_;rw[H8];rintro e w4 ⟨rfl,rfl⟩)
 refine bM (fun Z=>dD Z B b q op cnt S/\Below B n Z) ⟨X,F⟩ ?_;rintro R ⟨l,G⟩;obtain⟨g,c,rfl,hg,hc,H⟩:=dL l.own l.pos;have cb:=l.dJ.cell 0;have e2:(2:Nat)<=c:=by omega
 go_upto_region 9 with(go_at_call 70;refine(Cw l.opAt 0 eT (by omega) (by omega)).mono ?_;rw[a,V];rintro e Y ⟨rfl,rfl⟩)
 have I:∀W:World,(Instr.slice 90 (g,op.length,c) zZ none none).run tp W=.ok (g,if c=2 then 0 else 2,op.length-2,c-2) W:=by
  intro W;have hs:(sizeOf (Program.elem tp 90)).run tp W=.ok 1 W:=by kernel_rfl
  rw[run_slice_l W 90 g op.length c (by kernel_rfl) .i64 2 (by omega) (by omega),hs];by_cases J:c=2<;>simp[aq,sliced,J,Addr.add]
 obtain⟨o,T⟩:∃o,(if c=2 then 0 else 2)=o:=⟨_,rfl⟩;rw[T]at I;have m:∀(j:Nat) u,((op.drop 2).map ptr)[j]? =some u->R.cell? (g,o+j)=some u:=fun j u K=>by
  have am:j<op.length-2:=by have:=(aa.1 K).1;simpa using this
  have L:o=2:=by rw[<-T,if_neg (by omega)]
  rw[L];have:=l.own.cells (g:=g) rfl (2+j) u (by rw[List.map_drop,bd]at K;exact K);rwa[Addr.add_mid,bc]at this
 replace m:=aU m;replace z:=aU z;replace f:=aU f;go_upto_region 10 with(go_at_call 72;refine(KK g o (op.length-2) _ ((op.drop 2).map ptr) R (by simp) (by have:=f.out;omega) (fun u hu=>by obtain⟨p,_,rfl⟩:=List.mem_map.1 hu;rfl) m.out H).mono ?_;rintro e Y ⟨⟨v6,rfl⟩,v⟩)
 go_upto_region 11 with(go_at_call 71;refine(zG (l.under v) 1 (by omega) (by have:=z.out;omega)).mono ?_;rintro e w7 ⟨rfl,M,d,U⟩)
 go_wp2_with (go_at_call 73;refine(H6 eT w7).mono ?_;rw[EK];rintro e w8 ⟨rfl,x⟩)
 have N:=((G.trans (v.mono l.size)).trans M).trans (x.mono U.size);exact ej (cL rfl _ _ _) rfl ⟨rfl,N,d,U.under x⟩
