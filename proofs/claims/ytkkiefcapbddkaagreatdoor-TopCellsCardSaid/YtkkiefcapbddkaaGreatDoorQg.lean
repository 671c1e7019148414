/- part of topCells.proved -/
import Derived.Test.YtkkiefcapbddkaaGreatDoorHb
import Derived.Test.YtkkiefcapbddkaaGreatDoorHc
import Derived.Test.YtkkiefcapbddkaaGreatDoorKa
set_option linter.all false
set_option maxRecDepth 1000000
set_option maxHeartbeats 0
noncomputable section
namespace Go.Abs
open Go Go.Proofs
section
def t0:List D:=tk 4 [] 0 [] true
def t16:List D:=tk 4 [] 1024 [112,120] true
def XN:V:=.tu [.a (t0++t0++t0++t0),.d (.b true)]
def XO:V:=.tu [.a (t16++t0++t16++t0),.d (.b true)]
def um:List Nat:=[109,97,114,103,105,110]
def Vr(a:List Nat)(n:Int):List D:=[.s ((um++45::a).map .c),.i .i64 1,.i .i64 0,.i .i64 1,.i .i64 n,.i .i64 0,.i .u32 0]
def MK(a b:Int):V:=.tu [.d (.l 7 [Vr [116,111,112] a,Vr [114,105,103,104,116] b,Vr [98,111,116,116,111,109] a,Vr [108,101,102,116] b]),.d (.b true)]
def OA:ij (XM []) 40 260 [.d (.l 5 [t0])] XN=true:=by decide+kernel
def OB:ij (XM []) 40 260 [.d (.l 5 [t16,t0])] XO=true:=by decide+kernel
def YP:List (FuncId×(List V->Option V)):=[(260,Om (pO [.d (.l 5 [t0])] XN) (pO [.d (.l 5 [t16,t0])] XO))]
def OC:ij (enA YP) 40 182 [MJ um,.d (.l 5 [t0])] (MK 0 0)=true:=by decide+kernel
def OD:ij (enA YP) 40 182 [MJ um,.d (.l 5 [t16,t0])] (MK 1024 0)=true:=by decide+kernel
def RL:List (FuncId×(List V->Option V)):=[(47,pO [zj jh] nW),(46,pO [nW] eE),(182,Om (pO [MJ um,.d (.l 5 [t0])] (MK 0 0)) (pO [MJ um,.d (.l 5 [t16,t0])] (MK 1024 0)))]
variable[de]
def bH{P:Program}:∀p∈([]:List (FuncId×(List V->Option V))),kS P p.1 p.2:=fun p a=>by cases a
def ML(b:de.G=gS):∀p∈YP,kS tp p.1 p.2:=by
 intro p a;rcases aw.1 a with rfl|a
 .exact .or (.one (Vq bH b OA)) (.one (Vq bH b OB))
 cases a
def MM(b:de.G=gS):∀p∈RL,kS tp p.1 p.2:=by
 intro p a;rcases aw.1 a with rfl|a
 .exact .one (Vq bH b zl)
 rcases aw.1 a with rfl|a
 .exact .one (Vq bH b ul)
 rcases aw.1 a with rfl|a
 .exact .or (.one (pcA (ML b) b OC)) (.one (pcA (ML b) b OD))
 cases a
def gR(l:List (FuncId×(List V->Option V))):En:=XM (List.append l RL)
def jy{l:List (FuncId×(List V->Option V))}(b:∀p∈l,kS tp p.1 p.2)(a:de.G=gS){k:Nat}{f:FuncId}{args:List V}{y:V}(h:ij (gR l) k f args y=true):fW tp f/\PC tp f args y:=
 Vq (fun p c=>by
  rcases aJ.1 (show p∈l++RL from c)with h|h
  .exact b p h
  .exact MM a p h) a h
end
end Go.Abs
namespace Go.Abs
open Go.RowKit Go.Proofs
variable{F:Nat->Nat}{w:World}
def rowsOf(v:V):List (List D):=match v with|.tu (.d (.l _ r)::_)=>r|_=>[]
def mE(v:V)(i:Nat):D:=match(rowsOf v)[i]? with|some [_,d]=>d|_=>.z
def rd0:V:=(.d (.l 2 [[.b false,.l 7 [[.s [.c 100,.c 105,.c 115,.c 112,.c 108,.c 97,.c 121],.i .i64 1,.i .i64 1,.i .i64 0,.i .i64 0,.i .i64 0,.i .u32 0]]]]))
def rd1:V:=(.d (.l 2 [[.b false,.l 7 [[.s [.c 100,.c 105,.c 115,.c 112,.c 108,.c 97,.c 121],.i .i64 1,.i .i64 4,.i .i64 0,.i .i64 0,.i .i64 0,.i .u32 0]]]]))
def rd2:V:=(.d (.l 2 [[.b false,.l 7 [[.s [.c 100,.c 105,.c 115,.c 112,.c 108,.c 97,.c 121],.i .i64 1,.i .i64 5,.i .i64 0,.i .i64 0,.i .i64 0,.i .u32 0]]]]))
def rd3:V:=(.d (.l 2 [[.b false,.l 7 [[.s [.c 100,.c 105,.c 115,.c 112,.c 108,.c 97,.c 121],.i .i64 1,.i .i64 6,.i .i64 0,.i .i64 0,.i .i64 0,.i .u32 0]]]]))
def rd4:V:=(.d (.l 2 [[.b false,.l 7 [[.s [.c 100,.c 105,.c 115,.c 112,.c 108,.c 97,.c 121],.i .i64 1,.i .i64 2,.i .i64 0,.i .i64 0,.i .i64 0,.i .u32 0]]]]))
def rd5:V:=(.d (.l 2 [[.b false,.l 7 [[.s [.c 109,.c 97,.c 114,.c 103,.c 105,.c 110,.c 45,.c 116,.c 111,.c 112],.i .i64 1,.i .i64 0,.i .i64 1,.i .i64 1024,.i .i64 0,.i .u32 0],[.s [.c 109,.c 97,.c 114,.c 103,.c 105,.c 110,.c 45,.c 114,.c 105,.c 103,.c 104,.c 116],.i .i64 1,.i .i64 0,.i .i64 1,.i .i64 0,.i .i64 0,.i .u32 0],[.s [.c 109,.c 97,.c 114,.c 103,.c 105,.c 110,.c 45,.c 98,.c 111,.c 116,.c 116,.c 111,.c 109],.i .i64 1,.i .i64 0,.i .i64 1,.i .i64 1024,.i .i64 0,.i .u32 0],[.s [.c 109,.c 97,.c 114,.c 103,.c 105,.c 110,.c 45,.c 108,.c 101,.c 102,.c 116],.i .i64 1,.i .i64 0,.i .i64 1,.i .i64 0,.i .i64 0,.i .u32 0]]]]))
def rd6:V:=(.d (.l 2 [[.b false,.l 7 [[.s [.c 112,.c 97,.c 100,.c 100,.c 105,.c 110,.c 103,.c 45,.c 108,.c 101,.c 102,.c 116],.i .i64 1,.i .i64 0,.i .i64 1,.i .i64 2560,.i .i64 0,.i .u32 0]]]]))
def rd7:V:=(.d (.l 2 [[.b false,.l 7 [[.s [.c 102,.c 111,.c 110,.c 116,.c 45,.c 115,.c 105,.c 122,.c 101],.i .i64 1,.i .i64 0,.i .i64 0,.i .i64 0,.i .i64 2048,.i .u32 0]]],[.b false,.l 7 [[.s [.c 109,.c 97,.c 114,.c 103,.c 105,.c 110,.c 45,.c 116,.c 111,.c 112],.i .i64 1,.i .i64 0,.i .i64 1,.i .i64 1024,.i .i64 0,.i .u32 0],[.s [.c 109,.c 97,.c 114,.c 103,.c 105,.c 110,.c 45,.c 114,.c 105,.c 103,.c 104,.c 116],.i .i64 1,.i .i64 0,.i .i64 1,.i .i64 0,.i .i64 0,.i .u32 0],[.s [.c 109,.c 97,.c 114,.c 103,.c 105,.c 110,.c 45,.c 98,.c 111,.c 116,.c 116,.c 111,.c 109],.i .i64 1,.i .i64 0,.i .i64 1,.i .i64 1024,.i .i64 0,.i .u32 0],[.s [.c 109,.c 97,.c 114,.c 103,.c 105,.c 110,.c 45,.c 108,.c 101,.c 102,.c 116],.i .i64 1,.i .i64 0,.i .i64 1,.i .i64 0,.i .i64 0,.i .u32 0]]]]))
def rd8:V:=(.d (.l 2 [[.b false,.l 7 [[.s [.c 99,.c 111,.c 108,.c 111,.c 114],.i .i64 2,.i .i64 0,.i .i64 0,.i .i64 0,.i .i64 0,.i .u32 0]]]]))
def Hj:List Nat:=[116,100,32,123,32,98,97,99,107,103,114,111,117,110,100,58,32,114,101,100,32,125]
def MN:V:=.d (.l 5 [[.i .i64 1,.s [.c 116,.c 100],.i .i64 0,.s [],.b false],[.i .i64 7,.s [.c 32],.i .i64 0,.s [],.b false],[.i .i64 6,.s [.c 123],.i .i64 0,.s [],.b false],[.i .i64 7,.s [.c 32],.i .i64 0,.s [],.b false],[.i .i64 1,.s [.c 98,.c 97,.c 99,.c 107,.c 103,.c 114,.c 111,.c 117,.c 110,.c 100],.i .i64 0,.s [],.b false],[.i .i64 6,.s [.c 58],.i .i64 0,.s [],.b false],[.i .i64 7,.s [.c 32],.i .i64 0,.s [],.b false],[.i .i64 1,.s [.c 114,.c 101,.c 100],.i .i64 0,.s [],.b false],[.i .i64 7,.s [.c 32],.i .i64 0,.s [],.b false],[.i .i64 6,.s [.c 125],.i .i64 0,.s [],.b false]])
def Cb:V:=.tu [.d (.l 2 [[.l 1 [[.l 3 [[.i .i64 0,.s [.c 116,.c 100],.z]]]],.l 3 [[.s [.c 98,.c 97,.c 99,.c 107,.c 103,.c 114,.c 111,.c 117,.c 110,.c 100],.l 5 [[.i .i64 1,.s [.c 114,.c 101,.c 100],.i .i64 0,.s [],.b false]],.b false]]]]),.d (.i .i64 0)]
def rax:V:=.d (.l 2 [[.b false,.l 7 [[.s [.c 98,.c 97,.c 99,.c 107,.c 103,.c 114,.c 111,.c 117,.c 110,.c 100],.i .i64 1,.i .i64 0,.i .i64 0,.i .i64 0,.i .i64 0,.i .u32 4278190335]]]])
def Bn(v:V):D:=match v with|.d x=>x|_=>.z
def jS(v:V)(i:Nat):D:=match(rowsOf v)[i]? with|some [d,_]=>d|_=>.z
def iN(n:Int):D:=.i .i64 n
def qG:D:=.l 3 [[iN 0,jS eE 0,Bn rd0],[iN 0,jS eE 1,Bn rd1],[iN 0,jS eE 2,Bn rd2],[iN 0,jS eE 3,Bn rd3],[iN 0,jS eE 4,Bn rd4],[iN 0,jS eE 5,Bn rd5],[iN 0,jS eE 6,Bn rd6],[iN 0,jS eE 7,Bn rd7],[iN 0,jS eE 8,Bn rd8],[iN 1,jS Cb 0,Bn rax]]
def tV:V:=.a [.o 0]
def nV:V:=.d (.x .i64 (.v 1) 0 4000)
def XP(l:List Nat):List Sb:=List.rec [] (fun a _ ih=>.c a::ih) l
def YQ(a:List Nat):List Nat->Bool:=List.rec (fun b=>List.rec true (fun _ _ _=>false) b) (fun x _ ih b=>List.rec false (fun y r _=>Bool.rec false (ih r) (Nat.beq x y)) b) a
def RM:List (List Nat):=[[114,111,111,116],[100,105,118],[112],[117,108],[108,105],[104,49],[116,97,98,108,101],[116,114],[116,100],[115,116,121,108,101],[115,99,114,105,112,116],[98],[101,109]]
def Hl(c:List Nat):List (FuncId×(List V->Option V)):=List.append (List.rec [] (fun s _ ih=>(264,pO [tV,nV,.a [.l 3 [[iN 0,.s (XP s),.z]]]] (.d (.b (YQ s c))))::ih) RM) [(185,pO [tV,nV] (.d .z))]
def Hm:List Nat:=[114,111,111,116]
def Vs:List Nat:=[116,97,98,108,101]
def nTr:List Nat:=[116,114]
def nTd:List Nat:=[116,100]
def abA:List Sb:=[.c 100,.c 105,.c 115,.c 112,.c 108,.c 97,.c 121]
def pBg:List Sb:=[.c 98,.c 97,.c 99,.c 107,.c 103,.c 114,.c 111,.c 117,.c 110,.c 100]
def pP(k:Int):List D:=[.s abA,iN 1,iN k,iN 0,iN 0,iN 0,.i .u32 0]
def vBg:List D:=[.s pBg,iN 1,iN 0,iN 0,iN 0,iN 0,.i .u32 4278190335]
def Hn(k:Int):List D:=[iN 0,iN 0,iN 0,iN 1,.b false,.l 7 [pP k]]
def mBg:List D:=[iN 1,iN 0,iN 0,iN 1,.b false,.l 7 [vBg]]
def bh(d c:Int):List D:=[.i .i64 d,.i .i64 0,.i .i64 0,.i .i64 0,.i .i64 0,.i .i64 0,.i .i64 0,.i .i64 0,.i .i64 1,.i .i64 0,.i .i64 1,.i .i64 0,.i .i64 1,.i .i64 0,.i .i64 1,.i .i64 0,.i .i64 1,.i .i64 0,.i .i64 1,.i .i64 0,.i .i64 1,.i .i64 0,.i .i64 1,.i .i64 0,.i .i64 0,.i .i64 0,.i .i64 0,.i .i64 0,.i .i64 0,.i .i64 0,.i .i64 0,.i .i64 0,.i .i64 0,.i .i64 0,.i .i64 0,.i .i64 0,.i .u32 255,.i .u32 c,.i .i64 1024,.i .i64 (-1),.i .i64 0,.b false,.b false,.b false,.b false,.i .i64 0,.i .i64 1,.i .i64 0,.i .i64 0,.i .i64 4,.i .i64 0,.b false]
def Bo:List D:=[.i .i64 0,.i .i64 0,.i .i64 0,.i .i64 0,.i .i64 0,.i .i64 0,.i .i64 0,.i .i64 0,.i .i64 0,.i .i64 0,.i .i64 0,.i .i64 0,.i .i64 0,.i .i64 0,.i .i64 0,.i .i64 0,.i .i64 0,.i .i64 0,.i .i64 0,.i .i64 0,.i .i64 0,.i .i64 0,.i .i64 0,.i .i64 0,.i .i64 0,.i .i64 0,.i .i64 0,.i .i64 0,.i .i64 0,.i .i64 0,.i .i64 0,.i .i64 0,.i .i64 0,.i .i64 0,.i .i64 0,.i .i64 0,.i .u32 0,.i .u32 0,.i .i64 0,.i .i64 0,.i .i64 0,.b false,.b false,.b false,.b false,.i .i64 0,.i .i64 0,.i .i64 0,.i .i64 0,.i .i64 0,.i .i64 0,.b false]
section
def gF(F:Nat->Nat):Gh:=⟨fun _=>none,fun _=>none,F,fun _=>false⟩
def nX(w:World):Prop:=∃c t a,w.heap[3]? =some (.cells c t a)/\256<=c.size/\∀(j:Nat) d v,sG[j]? =some d->c[j]? =some v->∃n,d=.i .u8 n/\v=.int .u8 n
def Cc:sG.length=256:=by decide+kernel
def nX.below{j:World}{B:Nat}(h:nX w)(A:Below B w j)(C:3<B):nX j:=by
 obtain⟨c,t,D,E,H⟩:=h;exact⟨c,t,D,(A.block 3 C).trans E,H⟩
def nX.heap{j:World}(h:nX w)(A:j.heap[3]? =w.heap[3]?):nX j:=by
 obtain⟨c,t,B,C,D⟩:=h;exact⟨c,t,B,A.trans C,D⟩
def nX.lt(h:nX w):3<w.heap.size:=by
 obtain⟨c,t,A,j,B⟩:=h;exact(aP.1 j).1
variable[de]
def nX.lO(h:nX w)(B:F 3=256):RD F w (.q 256 [sG] 0 0) (.pointer (some ⟨3,0,none⟩)):=by
 obtain⟨c,t,C,D,E,H⟩:=h;refine RD.q 256 [sG] 0 0 3 0 c t C D (by rw[B];simp) (by rw[B];exact E) (fun r I=>by rw[bG.1 I];exact Cc) fun i r j d v A J L=>?_
 match i,A with
 |0,A=>
  cases A;obtain⟨n,rfl,rfl⟩:=H j d v J (by simpa using L);exact .i _ _
 |i+1,A=>simp at A
def YS(g:de.G=gS)(h:nX w)(i:F 3=256)(c:∀b,w.heap.size<=b->F b=0):Rel (gF F) (fun _=>none) w where
 lO:=fun k sz e d=>by
  rw[g]at d;unfold gS at d;obtain⟨a,f⟩:=mD d;have a:=Nat.eq_of_beq_eq_true a;subst a;cases f;exact h.lO i
 inj:=fun k l b a f=>by simp[dJ]at a
 lt:=fun b ⟨k,hb⟩=>by rcases hb with⟨sz,hb⟩|hb<;>cases hb
 fresh:=c
 top:=fun k _=>⟨rfl,rfl,rfl⟩
 obj:=fun k o j=>by cases j
def PC.kI{P:Program}{f:FuncId}{args:List V}{r:V}(J:PC P f args r)(L:de.G=gS)(M:nX w)(N:F 3=256)(C:∀b,w.heap.size<=b->F b=0){H:List Value}(D:GL (gF F) (fun _=>none) w args H):
 Calls P f H.toArray w fun e E=>∃v I,e=.returned v/\GV I (fun _=>none) E r v/\Below w w E:=by
 refine(J.over (YS L M N C) D).mono fun e E ⟨v,I,O,Q,S,A⟩=>⟨v,_,O,Q,?_⟩;refine⟨A.os,A.tape,A.output,A.size,fun k R=>(A.out k R ?_).1⟩;rintro⟨j,B⟩;rcases B with⟨sz,B⟩|B<;>cases B
def Hs{l:List Sb}{f:List UInt8}(y:SR l f){b:Nat}{c:Array Value}{t:TypeId}{z:Nat×Nat}{cap:Nat}(E:w.heap[b]? =some (.cells c t z))(A:F b=f.length)(G:f.length<=cap)(L:cap<=c.size)
 (H:∀(j:Nat) u,f[j]? =some u->c[j]? =some (.int .u8 u.toNat))(g:Gh)(I:g.F=F)(h:bw):GV g h w (zk l) (b,f.length,cap):=by
 refine .d _ _ ?_;rw[I];have a:=y.len;have:=RD.l (F:=F) (w:=w) 1 (l.map fun x=>match x with|.c n=>[D.i .u8 (Int.ofNat n)]|.x e J q=>[D.x .u8 e (Int.ofNat J) (Int.ofNat q)]) b 0 cap c t z E
  (by rw[aj,<-a,A];omega) (by rw[A];omega) (by omega) (by rw[aj,<-a];exact G)
  (
   fun r K=>by
   obtain⟨x,_,rfl⟩:=List.mem_map.1 K;cases x<;>rfl)
  (
   fun i r j d v k m B=>by
   rw[ai]at k;cases p:l[i]? with
   |none=>rw[p]at k;cases k
   |some x=>
    rw[p]at k;have q:i<f.length:=by rw[a];exact(aa.1 p).1
    have C:=List.getElem?_eq_getElem q;have s:=y.at_ i x _ p C;have o:r=[sbD x]:=by
     cases x<;>(cases k;rfl)
    subst o
    match j,m with
    |0,m=>
     cases m;rw[show 0+i*1+0=i by omega,H i _ C]at B;cases B;exact Jw s
    |j+1,m=>simp at m)
 rw[aj,<-a]at this;exact this
def Cd(l:List Nat):tf l=zk (l.map .c):=by
 unfold tf zk;rw[fj];rfl
end
end Go.Abs
namespace Go.Abs
open Go.RowKit Go.Proofs YtkkiefcapbddkaaGreatDoor Mem
variable{d:D}{F:Nat->Nat}{v:Value}{j w:World}
section
variable[de]
inductive ln:D->Prop
 |i (k n):ln (.i k n)
 |x (k e lo hi):ln (.x k e lo hi)
 |b (x):ln (.b x)
 |s (x):ln (.s x)
 |z:ln .z
 |np:ln .np
 |nf:ln .nf
 |nm:ln .nm
 |o (i) (h:ln (de.d i)):ln (.o i)
 |l (sz rows) (h0:rows≠[]) (h1:0<sz) (h:∀(i:Nat) r (j:Nat) d,rows[i]? =some r->r[j]? =some d->ln d):ln (.l sz rows)
def Kept(F:Nat->Nat)(w:World)(a:Nat->Nat)(c:World):Prop:=∀b,0<F b->a b=F b/\c.heap[b]? =w.heap[b]?
def Kept.refl(F:Nat->Nat)(w:World):Kept F w F w:=fun _ _=>⟨rfl,rfl⟩
def Kept.trans{F B j:Nat->Nat}{w C A:World}(a:Kept F w B C)(b:Kept B C j A):Kept F w j A:=fun k D=>by
 obtain⟨E,H⟩:=a k D;obtain⟨I,J⟩:=b k (by rw[E];exact D);exact⟨I.trans E,J.trans H⟩
def RD.move{F':Nat->Nat}{w':World}(L:Kept F w F' w')(h:RD F w d v)(B:ln d):RD F' w' d v:=by
 induction h with
 |i k n=>exact .i k n
 |x k e M N C E=>exact .x k e M N C E
 |b x=>exact .b x
 |s x b h=>exact .s x b h
 |z=>exact .z
 |np=>exact .np
 |nf=>exact .nf
 |nm=>exact .nm
 |o i v h ih=>cases B with|o _ h=>exact .o i v (ih h)
 |lz sz=>exact .lz sz
 |l sz A b H cap c t O P Z Q R S T h ih=>
  cases B with
  |l _ _ V C E=>
   have W:0<A.length:=by
    cases A with
    |nil=>exact absurd rfl V
    |cons a r=>simp
   have hm:=Nat.mul_le_mul W C;obtain⟨k1,X⟩:=L b (by omega);exact .l sz A b H cap c t O (X.trans P) (by omega) (by omega) R S T fun i r j d v I J Y=>ih i r j d v I J Y (E i r j d I J)
 |q=>cases B
 |f=>cases B
structure Gk(F:Nat->Nat)(w:World):Prop where
 three:256<=F 3
 fit:∀c t fz,w.heap[3]? =some (.cells c t fz)->F 3<=c.size
 sp:nX w
 fresh:∀b,w.heap.size<=b->F b=0
def Gk.lt(h:Gk F w){b:Nat}(j:0<F b):b<w.heap.size:=by
 rcases cD b w with h1|h1
 .exact h1
 .have:=h.fresh b h1;omega
def Kept.below{B:Nat}(A:Below B w j)(C:∀b,0<F b->b<B):Kept F w F j:=fun b h=>⟨rfl,A.block b (C b h)⟩
def Gk.below{A:World}{B:Nat}(h:Gk F w)(j:Below B w A)(C:∀b,0<F b->b<B):Gk F A:=
 ⟨h.three,fun c t D e=>h.fit c t D ((j.block 3 (C 3 (Nat.lt_of_lt_of_le (by decide) h.three))).symm.trans e),h.sp.heap (j.block 3 (C 3 (Nat.lt_of_lt_of_le (by decide) h.three))),fun b E=>h.fresh b (Nat.le_trans j.size E)⟩
def Gk.kept(h:Gk F w)(A:Kept F w F j)(B:w.heap.size<=j.heap.size):Gk F j:=
 ⟨h.three,fun c t C e=>h.fit c t C ((A 3 (Nat.lt_of_lt_of_le (by decide) h.three)).2.symm.trans e),h.sp.heap (A 3 (Nat.lt_of_lt_of_le (by decide) h.three)).2,fun b D=>h.fresh b (Nat.le_trans B D)⟩
def GV.bare{g:Gh}{r:V}(h:GV g (fun _=>none) w r v)(j:r.lt 0=true):GV (gF g.F) (fun _=>none) w r v:=GV.free (g:=g) (g1:=gF g.F) rfl h j
def YU(p:de.G=gS)(f:Gk F w):Rel (gF F) (fun _=>none) w where
 lO:=fun k sz l g=>by
  rw[p]at g;unfold gS at g;obtain⟨a,h⟩:=mD g;have a:=Nat.eq_of_beq_eq_true a;subst a;cases h;obtain⟨c,t,m,a,h,s⟩:=f.sp;refine RD.q 256 [sG] 0 0 3 0 c t m a (by show 0+1*256<=F 3;have:=f.three;omega) (f.fit c t m a) (fun r u=>by rw[bG.1 u];exact Cc) fun i r j d v e x y=>?_
  match i,e with
  |0,e=>
   cases e;obtain⟨n,rfl,rfl⟩:=s j d v x (by simpa using y);exact .i _ _
  |i+1,e=>simp at e
 inj:=fun k A b a h=>by simp[dJ]at a
 lt:=fun b ⟨k,hb⟩=>by rcases hb with⟨sz,hb⟩|hb<;>cases hb
 fresh:=f.fresh
 top:=fun k _=>⟨rfl,rfl,rfl⟩
 obj:=fun k o z=>by cases z
def PC.mH{P:Program}{f:FuncId}{args:List V}{r:V}(M:PC P f args r)(R:de.G=gS)(A:Gk F w){N:List Value}(I:GL (gF F) (fun _=>none) w args N):
 Calls P f N.toArray w fun e B=>∃v J,e=.returned v/\GV (gF J) (fun _=>none) B r v/\Below w w B/\Gk J B/\(∀b,b<w.heap.size->J b=F b):=by
 refine(M.over (YU R A) I).mono fun e B ⟨v,O,S,T,W,C⟩=>?_;have D:∀b,b<w.heap.size->B.heap[b]? =w.heap[b]? /\((gF F).over O).F b=F b:=fun b L=>C.out b L (by
  rintro⟨j,E⟩;rcases E with⟨sz,E⟩|E<;>cases E)
 have Q:Below w w B:=⟨C.os,C.tape,C.output,C.size,fun k A=>(D k A).1⟩;have H:=A.sp.lt;exact⟨v,((gF F).over O).F,S,GV.bare T M.2.1,Q,⟨by rw[(D 3 H).2];exact A.three,fun c t X e=>by rw[(D 3 H).2];exact A.fit c t X ((D 3 H).1.symm.trans e),A.sp.below Q H,W.fresh⟩,fun b L=>(D b L).2⟩
def Kept.kI{F':Nat->Nat}(A:Gk F w)(C:Below w w j)(D:∀b,b<w.heap.size->F' b=F b):Kept F w F' j:=fun b B=>⟨D b (A.lt B),C.block b (A.lt B)⟩
structure RA(F:Nat->Nat)(w:World)(ds:List D)(vs:List Value):Prop where
 len:vs.length=ds.length
 at_:∀(i:Nat) d v,ds[i]? =some d->vs[i]? =some v->RD F w d v
def RA.nil(F:Nat->Nat)(w:World):RA F w [] []:=⟨rfl,fun i d v a=>by simp at a⟩
def RA.cons{F:Nat->Nat}{w:World}{d:D}{v:Value}{j:List D}{A:List Value}(C:RD F w d v)(B:RA F w j A):RA F w (d::j) (v::A):=
 ⟨by simp[B.len],fun i y u a b=>by
  cases i with
  |zero=>cases a;cases b;exact C
  |succ i=>exact B.at_ i y u (by simpa using a) (by simpa using b)⟩
def RA.app{j B:List D}{C E:List Value}(A:RA F w j C)(H:RA F w B E):RA F w (j++B) (C++E):=by
 refine⟨by simp[A.len,H.len],fun i d v a b=>?_⟩;have I:=A.len;by_cases J:i<j.length
 .rw[an J]at a;rw[an (by omega)]at b;exact A.at_ i d v a b
 .rw[ay (by omega)]at a b;rw[I]at b;exact H.at_ _ d v a b
def RA.one{F:Nat->Nat}{w:World}{B:List D}{j:List Value}(h:RA F w B j):∀v∈j,v.oneCell'=true:=fun v C=>by
 obtain⟨i,A⟩:=List.getElem?_of_mem C;have E:=h.len;have H:=(List.getElem?_eq_some_iff.1 A).1;exact(h.at_ i _ v (List.getElem?_eq_getElem (by omega)) A).one
def RA.gv{j:List D}{A:List Value}(h:RA F w j A):GV (gF F) (fun _=>none) w (.a j) (.agg A.toArray):=.a j A h.len h.one h.at_
def GV.ra{ds:List D}(h:GV (gF F) (fun _=>none) w (.a ds) v):∃j,v=.agg j.toArray/\RA F w ds j:=by
 cases h with
 |a _ j A C B=>exact⟨j,rfl,A,B⟩
def RA.move{F F':Nat->Nat}{w w':World}(B:Kept F w F' w'){j:List D}{A:List Value}(h:RA F w j A)(C:∀d∈j,ln d):RA F' w' j A:=
 ⟨h.len,fun i d v a b=>(h.at_ i d v a b).move B (C d (List.mem_of_getElem? a))⟩
def VF:Sb->UInt8|.c n=>UInt8.ofNat n|.x .. =>0
def MP:Sb->Bool|.c n=>decide (n<256)|.x .. =>false
def dV:D->Value
 |.i k n=>.int k n
 |.b x=>x
 |.s l=>.string ⟨(l.map VF).toArray⟩
 |.z=>zn
 |.np=>.pointer none
 |.nf=>.nilFunc
 |.nm=>.map none
 |_=>false
def dP:D->Bool
 |.i .. =>true
 |.b _=>true
 |.s l=>l.all MP
 |.z=>true
 |.np=>true
 |.nf=>true
 |.nm=>true
 |_=>false
def MQ{x:Sb}(h:MP x=true):∃n,x=.c n/\n<256:=by
 cases x with
 |c n=>exact⟨n,rfl,by simpa[MP]using h⟩
 |x=>simp[MP]at h
def Cf(h:dP d=true):RD F w d (dV d):=by
 cases d with
 |i k n=>exact .i k n
 |b x=>exact .b x
 |s l=>
  refine .s l _ ⟨by simp,fun i x u a b=>?_⟩;obtain⟨n,rfl,c⟩:=MQ (aQ.1 (show l.all MP=true from h) x (List.mem_of_getElem? a));simp only[ai,a,Option.map_some,aK]at b;subst b;show(UInt8.ofNat n).toNat=n;simp only[jB];omega
 |z=>exact .z
 |np=>exact .np
 |nf=>exact .nf
 |nm=>exact .nm
 |_=>cases h
def YV(h:dP d=true)(k:RD F w d v):v=dV d:=by
 cases k with
 |s l b g=>
  show Value.string b=.string ⟨(l.map VF).toArray⟩
  congr 1
  have e:b.data.toList=l.map VF:=by
   apply sL;intro i;cases a:l[i]? with
   |none=>
    have j:l.length<=i:=by simpa using a
    rw[ai,a,List.getElem?_eq_none (by rw[g.len];exact j)];rfl
   |some x=>
    have j:=(List.getElem?_eq_some_iff.1 a).1;have c:i<b.data.toList.length:=by rw[g.len];exact j
    obtain⟨n,rfl,r⟩:=MQ (aQ.1 (show l.all MP=true from h) x (List.mem_of_getElem? a));have m:=g.at_ i _ _ a (List.getElem?_eq_getElem c);have p:b.data.toList[i].toNat=n:=m;rw[af c,List.getElem?_map,a];simp only[cj,aK];apply xo.1;rw[p];show n=(UInt8.ofNat n).toNat;simp only[jB];omega
  cases b with
  |mk d=>
   have:d=(l.map VF).toArray:=by rw[<-e]
   rw[this]
 |i=>rfl
 |b=>rfl
 |z=>rfl
 |np=>rfl
 |nf=>rfl
 |nm=>rfl
 |x=>cases h
 |o=>cases h
 |lz=>cases h
 |l=>cases h
 |q=>cases h
 |f=>cases h
def nr{F:Nat->Nat}{w:World}:∀{a:List D},a.all dP=true->RA F w a (a.map dV)
 |[],_=>.nil F w
 |d::a,h=>by
  simp only[iW,ax]at h;exact .cons (Cf h.1) (nr h.2)
def ku{F:Nat->Nat}{w:World}:∀{e:List D} {f:List Value},e.all dP=true->RA F w e f->f=e.map dV
 |[],f,_,c=>by have:=c.len;exact aD this
 |d::e,[],h,c=>by have:=c.len;simp at this
 |d::e,v::f,h,c=>by
  simp only[iW,ax]at h;rw[bV,<-YV h.1 (c.at_ 0 d v rfl rfl),<-ku h.2 ⟨by have:=c.len;simpa using this,fun i d v a b=>c.at_ (i+1) d v a b⟩]
def aaC(h:dP d=true):ln d:=by
 cases d with
 |i k n=>exact .i k n
 |b x=>exact .b x
 |s l=>exact .s l
 |z=>exact .z
 |np=>exact .np
 |nf=>exact .nf
 |nm=>exact .nm
 |_=>cases h
def eV{sz:Nat}{e:List (List D)}{a:Value}(h:RD F w (.l sz e) a)(s:e≠[]):
 ∃b f cap,a=.slice (some ⟨b,f,none⟩) e.length cap/\e.length<=cap/\b<w.heap.size/\(0<sz->0<F b)/\∀(i:Nat) r,e[i]? =some r->∃u,w.rangeAt b (f+i*sz) u/\RA F w r u:=by
 cases h with
 |lz=>exact absurd rfl s
 |l _ _ b f cap c t y x H I J z A B=>
  have k:0<e.length:=by
   cases e with
   |nil=>exact absurd rfl s
   |cons a r=>simp
  refine⟨b,f,cap,rfl,z,(Array.getElem?_eq_some_iff.1 x).1,fun h=>?_,fun i r p=>?_⟩
  .have:1*1<=e.length*sz:=Nat.mul_le_mul k h;omega
  have C:=(List.getElem?_eq_some_iff.1 p).1;have q:=A r (List.mem_of_getElem? p);have E:(i+1)*sz<=e.length*sz:=Nat.mul_le_mul_right _ C;rw[bp]at E;have m:∀j,j<sz->f+i*sz+j<c.size:=fun j g=>by omega
  refine⟨(List.range sz).map fun j=>c[f+i*sz+j]?.getD false,fun j v n=>?_,⟨by simp[q],fun j d v G o=>?_⟩⟩
  .have g:j<sz:=by have:=(aa.1 n).1;simpa using this
   rw[jG w b _ c t y x];simp only[ai,BI g,Option.map_some,aK]at n;rw[dE (m j g)]at n|-;simpa using n
  .have g:j<sz:=by have:=(aa.1 o).1;simpa using this
   simp only[ai,BI g,Option.map_some,aK]at o;refine B i r j d v p G ?_;rw[dE (m j g)]at o|-;simpa using o
def RD.qI{base sz n g cap:Nat}{e:TypeId}{N:List Value}{A:List (List D)}(O:w.ownsRow base e sz (g,n,cap) n N)(T:F g=0)(I:A.length=n)(B:∀r∈A,r.length=sz)
 (V:∀(i:Nat) r (j:Nat) d u,A[i]? =some r->r[j]? =some d->N[i*sz+j]? =some u->RD F w d u)(W:∀(i:Nat) r (j:Nat) d,A[i]? =some r->r[j]? =some d->ln d):
 RD (up F g (n*sz)) w (.l sz A) (g,n,cap)/\Kept F w (up F g (n*sz)) w:=by
 have P:Kept F w (up F g (n*sz)) w:=fun b X=>⟨bI _ _ _ (fun e=>by rw[e,T]at X;omega),rfl⟩;refine⟨?_,P⟩;rcases O.2 with⟨J,h0⟩|⟨g',Q,C,J,h1,Y,Z,h4,h5,R⟩
 .cases J
 .injection J with E q2 q3;injection E with E;injection E with E;subst E q3;have hl:=O.1;have L:n*sz<=C.size:=by
   have:=dY List.length R;rw[aN,aH]at this;omega
  have:=RD.l (F:=up F g (n*sz)) (w:=w) sz A g 0 cap C e (0,0) Y (by rw[aR,I];omega) (by rw[aR];exact L) (by omega) (by rw[I];exact Z) B (fun i r j d u H M S=>by
   refine(V i r j d u H M ?_).move P (W i r j d H M);have hi:=(List.getElem?_eq_some_iff.1 H).1;have hj:=(List.getElem?_eq_some_iff.1 M).1;rw[B r (List.mem_of_getElem? H)]at hj;have hm:(i+1)*sz<=n*sz:=Nat.mul_le_mul_right _ (by omega);rw[bp]at hm;rw[<-R,List.getElem?_take_of_lt (by omega),az];rw[bc]at S;exact S)
  rw[I]at this;exact this
