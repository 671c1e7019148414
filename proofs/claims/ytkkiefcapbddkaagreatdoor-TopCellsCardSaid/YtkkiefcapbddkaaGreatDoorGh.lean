/- part of topCells.proved -/
import Derived.Test.YtkkiefcapbddkaaGreatDoorAw
import Derived.Test.YtkkiefcapbddkaaGreatDoorGd
import Derived.Test.YtkkiefcapbddkaaGreatDoorProg
set_option linter.all false
set_option maxRecDepth 1000000
set_option maxHeartbeats 0
noncomputable section
namespace Go.Abs
open Go.RowKit Go.Proofs
variable{a:List (List Nat)}{b:List Nat}{i k:Nat}{F:Nat->Nat}{w:World}
def tm(n:Int):(n.tmod 10=n % 10/\0<=n.tmod 10)\/(n.tmod 10=n % 10-10/\n.tmod 10<0):=by
 have h:=Int.tmod_eq_emod (a:=n) (b:=10);split at h
 .left;omega
 .right;have:n % 10≠0:=fun e=>by
   next c=>exact c (.inr (lY e))
  have e:((Int.natAbs 10:Nat):Int)=10:=rfl;rw[e]at h;omega
def abb(n:Int):(n.tmod 801=n % 801/\0<=n.tmod 801)\/(n.tmod 801=n % 801-801/\n.tmod 801<0):=by
 have h:=Int.tmod_eq_emod (a:=n) (b:=801);split at h
 .left;omega
 .right;have:n % 801≠0:=fun e=>by
   next c=>exact c (.inr (lY e))
  have e:((Int.natAbs 801:Nat):Int)=801:=rfl;rw[e]at h;omega
def l6{k:IntKind}{a b:Int}(h:a=b):Ending.returned (.int k a)=.returned (.int k b):=by rw[h]
def X5(n:Int)(w:World):Calls tp 8 #[n,zQ,z6] w fun e b=>e=.returned (.int .i64 (n % 10))/\w=b:=by
 obtain⟨m,c⟩:∃m,n.tmod 10=m:=⟨_,rfl⟩;have a:=tm n;have d:=Int.tmod_def n 10;rw[c]at a d;rcases a with⟨f,g⟩|⟨f,g⟩
 .go_enter sy,oK
  go_wp2
  go_ret
  refine⟨l6 ?_,rfl⟩;omega
 .go_enter sy,oK
  go_wp2
  go_ret
  refine⟨l6 ?_,rfl⟩;omega
def X6(n:Int)(w:World):Calls tp 8 #[n,(100:Int),(900:Int)] w fun e b=>e=.returned (.int .i64 (100+n % 801))/\w=b:=by
 obtain⟨m,c⟩:∃m,n.tmod 801=m:=⟨_,rfl⟩;have a:=abb n;have d:=Int.tmod_def n 801;rw[c]at a d;rcases a with⟨f,g⟩|⟨f,g⟩
 .go_enter sy,oK
  go_wp2
  go_ret
  refine⟨l6 ?_,rfl⟩;omega
 .go_enter sy,oK
  go_wp2
  go_ret
  refine⟨l6 ?_,rfl⟩;omega
open Go.Proofs.YtkkiefcapbddkaaGreatDoor Mem ep
def AQ(a b:ByteArray):(a++b).data.toList=a.data.toList++b.data.toList:=by
 rw[nB,gN]
def tm9(n:Int):(n.tmod 9=n % 9/\0<=n.tmod 9)\/(n.tmod 9=n % 9-9/\n.tmod 9<0):=by
 have h:=Int.tmod_eq_emod (a:=n) (b:=9);split at h
 .left;omega
 .right;have:n % 9≠0:=fun e=>by
   next c=>exact c (.inr (lY e))
  have e:((Int.natAbs 9:Nat):Int)=9:=rfl;rw[e]at h;omega
def abc(n:Int):(n.tmod 500=n % 500/\0<=n.tmod 500)\/(n.tmod 500=n % 500-500/\n.tmod 500<0):=by
 have h:=Int.tmod_eq_emod (a:=n) (b:=500);split at h
 .left;omega
 .right;have:n % 500≠0:=fun e=>by
   next c=>exact c (.inr (lY e))
  have e:((Int.natAbs 500:Nat):Int)=500:=rfl;rw[e]at h;omega
def Jb(n:Int)(w:World):Calls tp 8 #[n,zJ,z6] w fun e b=>e=.returned (wN n:Int)/\w=b:=by
 obtain⟨m,c⟩:∃m,n.tmod 9=m:=⟨_,rfl⟩;have a:=tm9 n;have d:=Int.tmod_def n 9;rw[c]at a d;have h:(wN n:Int)=1+n % 9:=by unfold wN;omega
 rcases a with⟨f,g⟩|⟨f,g⟩
 .go_enter sy,oK
  go_wp2
  go_ret
  refine⟨l6 ?_,rfl⟩;omega
 .go_enter sy,oK
  go_wp2
  go_ret
  refine⟨l6 ?_,rfl⟩;omega
def LB(n:Int)(w:World):Calls tp 8 #[n,zJ,(500:Int)] w fun e b=>e=.returned (.int .i64 (1+n % 500))/\w=b:=by
 obtain⟨m,c⟩:∃m,n.tmod 500=m:=⟨_,rfl⟩;have a:=abc n;have d:=Int.tmod_def n 500;rw[c]at a d;rcases a with⟨f,g⟩|⟨f,g⟩
 .go_enter sy,oK
  go_wp2
  go_ret
  refine⟨l6 ?_,rfl⟩;omega
 .go_enter sy,oK
  go_wp2
  go_ret
  refine⟨l6 ?_,rfl⟩;omega
def Dc:∀(a:List Nat) (b:Nat) (out:List Nat) (n:Nat),pe b out (a++[n])=pZ (pe b out a) (b+a.length) n
 |[],b,out,n=>rfl
 |x::a,b,out,n=>by
  rw[et];unfold pe;rw[Dc a (b+1) _ n,List.length_cons]
  congr 1
  omega
def AR:∀(a:List (List Nat)) (out:List Nat) (r:List Nat),fT out (a++[r])=pe 0 (fT out a) r
 |[],out,r=>rfl
 |x::a,out,r=>by
  rw[et];unfold fT;exact AR a _ r
def Jc(r:List Int):List Nat:=(r.take 6).map wN
def Xn{r:List Int}{x:Int}(h:r[k]? =some x)(a:k<6):(Jc r)[k]? =some (wN x):=by
 unfold Jc;rw[ai,br,aS a,h];rfl
def AS(r:List Int):(Jc r).length=min 6 r.length:=by simp[Jc]
def AT{R:List (List Int)}{r:List Int}(h:R[i]? =some r)(a:i<6):(bZ R)[i]? =some (Jc r):=by
 unfold bZ;rw[ai,br,aS a,h];rfl
def wJ(R:List (List Int)):(bZ R).length=min 6 R.length:=by simp[bZ]
def P4(R:List (List Int)):tabW R=(bZ R).map (·.map wd):=(I1 R).symm
def ss(a:List (List Nat))(i:Nat):List UInt8:=hR ((a.take i).map (·.map wd))
def wK(a:List Nat)(k:Nat):List UInt8:=hC ((a.take k).map wd)
def P5(h:a[i]? =some b):ss a (i+1)=ss a i++([60,116,114,62]++wK b b.length):=by
 unfold ss wK;rw[bJ,h,List.take_length];unfold hR;simp
def wL{a:List Nat}{n:Nat}(h:a[k]? =some n):wK a (k+1)=wK a k++([60,116,100,62]++List.replicate n 119):=by
 unfold wK;rw[bJ,h];unfold hC;simp[wd]
def TV(a:List Nat)(k:Nat)(d:k<=6)(h:∀n∈a,n<=9):(wK a k).length<=78:=by
 have:=K0 ((a.take k).map wd) (fun s b=>by
  obtain⟨n,c,rfl⟩:=List.mem_map.1 b;rw[x9];exact h n (List.mem_of_mem_take c))
 rw[aj,aN]at this;unfold wK;omega
def TW(a:List (List Nat))(i:Nat)(k:i<=6)(e:∀r∈a,r.length<=6)(h:∀r∈a,∀n∈r,n<=9):(ss a i).length<=492:=by
 have:=K2 ((a.take i).map (·.map wd)) (fun r f=>by
  obtain⟨c,g,rfl⟩:=List.mem_map.1 f;have d:=List.mem_of_mem_take g;refine⟨by rw[aj];exact e c d,fun s j=>?_⟩;obtain⟨n,b,rfl⟩:=List.mem_map.1 j;rw[x9];exact h c d n b)
 rw[aj,aN]at this;unfold ss;omega
def Xo(R:List (List Int)):nG (tabW R)=[60,116,97,98,108,101,62]++(ss (bZ R) (bZ R).length++[60,47,116,97,98,108,101,62]):=by
 unfold nG ss;rw[bL,P4]
def sK(a:List (List Nat))(i:Nat):List Nat:=fT [] (a.take i)
def LC(h:a[i]? =some b):sK a (i+1)=pe 0 (sK a i) b:=by
 unfold sK;rw[ml h,AR]
def fg(a:List (List Nat))(i:Nat):Nat:=((a.take i).map List.length).sum
def jX(h:a[i]? =some b):fg a (i+1)=fg a i+b.length:=by
 unfold fg;rw[ml h,List.map_append,xt];simp
def oC(l:List Nat):List Value:=l.map fun(n:Nat)=>Value.int .i64 (n:Int)
def Nz(s:ByteArray):s.size=s.data.toList.length:=by
 show s.data.size=_;simp
section
variable[de]
def Xq{sz:Nat}{e:List (List D)}{a:Value}(h:RD F w (.l sz e) a)(o:e≠[]):
 ∃b f cap,a=.slice (some ⟨b,f,none⟩) e.length cap/\b<w.heap.size/\∀(i:Nat) r (j:Nat) d,e[i]? =some r->r[j]? =some d->∃v,w.cell? ⟨b,f+i*sz+j,none⟩=some v/\RD F w d v:=by
 cases h with
 |lz=>exact absurd rfl o
 |l _ _ b f cap c t p m z A B C q s=>
  refine⟨b,f,cap,rfl,(aP.1 m).1,fun i r j d k n=>?_⟩;have u:=(List.getElem?_eq_some_iff.1 k).1;have E:=(List.getElem?_eq_some_iff.1 n).1;have x:=q r (List.mem_of_getElem? k);have y:(i+1)*sz<=e.length*sz:=Nat.mul_le_mul_right _ u;rw[bp]at y;have g:f+i*sz+j<c.size:=by omega
  refine⟨c[f+i*sz+j],?_,s i r j d _ k n (Array.getElem?_eq_getElem g)⟩;rw[jG w b _ c t p m,Array.getElem?_eq_getElem g]
def GL.three{g:Gh}{h:bw}{x y z:V}{a b c:Value}(B:GV g h w x a)(C:GV g h w y b)(D:GV g h w z c):GL g h w [x,y,z] [a,b,c]:=
 ⟨rfl,fun i p v j A=>by
  match i,j,A with
  |0,j,A=>cases j;cases A;exact B
  |1,j,A=>cases j;cases A;exact C
  |2,j,A=>cases j;cases A;exact D
  |i+3,j,A=>simp at j⟩
def Z3(F:Nat->Nat)(h:bw)(w:World):GV (gF F) h w Xp (.agg #[(6400:Int),(6400:Int),zn]):=by
 refine GV.a (g:=gF F) (h:=h) (w:=w) [iN 6400,iN 6400,.z] [(6400:Int),(6400:Int),zn] rfl (fun v hv=>?_) (fun i x v b c=>?_)
 .rcases aw.1 hv with rfl|hv
  .rfl
  rcases aw.1 hv with rfl|hv
  .rfl
  rcases aw.1 hv with rfl|hv
  .rfl
  cases hv
 .match i,b,c with
  |0,b,c=>cases b;cases c;exact .i _ _
  |1,b,c=>cases b;cases c;exact .i _ _
  |2,b,c=>cases b;cases c;exact .z
  |i+3,b,c=>simp at b
def Xr{g:Gh}{h:bw}{d:D}{v:Value}(e:GV g h w (.tu [.d d,.d (iN 0)]) v):∃a,v=.tuple #[a,zQ]/\RD g.F w d a:=by
 cases e with
 |tu _ f i c=>
  match f,i with
  |[a,b],_=>
   have j:=(c 0 _ a rfl rfl).cG;have k:=(c 1 _ b rfl rfl).cG;cases k;exact⟨a,rfl,j⟩
def P6(w:de.G=gS){r s:List Sb}{c f:List UInt8}{d:D}(x:PC tp 9 [zk r,zk s,Xp] (.tu [.d d,.d (iN 0)]))(y:SR r c)(z:SR s f)
 {W:World}(t:nX W){g h:Nat}{l m:Array Value}{t1 t2:TypeId}{f1 f2:Nat×Nat}{cap1 cap2:Nat}(i:W.heap[g]? =some (.cells l t1 f1))(k:W.heap[h]? =some (.cells m t2 f2))
 (n:g≠h)(A:g≠3)(B:h≠3)(C:c.length<=cap1)(E:f.length<=cap2)(H:cap1<=l.size)(I:cap2<=m.size)
 (o:∀(j:Nat) u,c[j]? =some u->l[j]? =some (.int .u8 u.toNat))(p:∀(j:Nat) u,f[j]? =some u->m[j]? =some (.int .u8 u.toNat)):
 Calls tp 9 #[(g,c.length,cap1),(h,f.length,cap2),.agg #[(6400:Int),(6400:Int),zn]] W
  fun e q=>∃a J,e=tQ #[a,zQ]/\RD J q d a/\Below W W q:=by
 have V:=(Array.getElem?_eq_some_iff.1 i).1;have X:=(Array.getElem?_eq_some_iff.1 k).1;have Y:=t.lt
 let F:Nat->Nat:=fun b=>if b=g then c.length else if b=h then f.length else if b=3 then 256 else 0
 have K:F g=c.length:=by simp[F]
 have L:F h=f.length:=by simp[F,Ne.symm n]
 have M:F 3=256:=by simp[F,Ne.symm A,Ne.symm B]
 have N:∀b,W.heap.size<=b->F b=0:=fun b Z=>by
  have O:b≠g:=by omega
  have P:b≠h:=by omega
  have Q:b≠3:=by omega
  simp[F,O,P,Q]
 refine(x.kI w t M N (GL.three (Hs y i K C H o _ rfl _) (Hs z k L E I p _ rfl _) (Z3 F _ _))).mono fun e q ⟨v,g',R,S,T⟩=>?_;obtain⟨a,rfl,U⟩:=Xr S;exact⟨a,_,R,U,T⟩
def TY(l:List Nat)(h:∀n∈l,n<256):SR (l.map .c) (l.map UInt8.ofNat):=
 ⟨by simp,fun i x u a b=>by
  rw[ai]at a b;cases hq:l[i]? with
  |none=>rw[hq]at a;cases a
  |some n=>
   rw[hq]at a b;cases a;cases b;show(UInt8.ofNat n).toNat=n;have:=h n (List.mem_of_getElem? hq);simp only[jB];omega⟩
def AU{a:List UInt8}{rest:List Value}{c:Array Value}(h:c.toList=a.map (fun u=>Value.int .u8 u.toNat)++rest):∀(j:Nat) u,a[j]? =some u->c[j]? =some (.int .u8 u.toNat):=fun j u b=>by
 rw[<-az,h,List.getElem?_append_left (by rw[aj];exact(aa.1 b).1),ai,b];rfl
def awA:Array Value:=#[.int .u8 60,.int .u8 112,.int .u8 62,.int .u8 97]
def awB:Array Value:=#[.int .u8 112,.int .u8 32,.int .u8 123,.int .u8 32,.int .u8 99,.int .u8 111,.int .u8 108,.int .u8 111,.int .u8 114,.int .u8 58,.int .u8 32,.int .u8 114,.int .u8 101,.int .u8 100,.int .u8 32,.int .u8 125]
def Fp(m:de.G=gS)(w:World)(n:nX w):
 Calls tp 9 #[(w.heap.size,4,4),(w.heap.size+1,16,16),.agg #[(6400:Int),(6400:Int),zn]]
  ((w.alloc (.cells awA 5 (4,5))).alloc (.cells awB 5 (16,17)))
  fun e g=>∃b f cap,e=tQ #[.slice (some ⟨b,f,none⟩) 1 cap,zQ]/\Below w w g/\g.cell? ⟨b,f+7,none⟩=some (.string ⟨#[97]⟩)/\g.cell? ⟨b,f+6,none⟩=some (.int .u32 4278190335)/\
   g.cell? (b,f+2)=zQ/\g.cell? (b,f+3)=(1024:Int)/\g.cell? (b,f+4)=(512:Int)/\g.cell? (b,f+5)=z9:=by
 have h:=n.lt;have o:=TX m;rw[Cd,Cd]at o;have p:Below w w ((w.alloc (.cells awA 5 (4,5))).alloc (.cells awB 5 (16,17))):=
  ((Below.refl _ w).alloc (ae _) _).alloc (by simp) _
 have i:=(((Below.refl _ (w.alloc (.cells awA 5 (4,5)))).alloc (ae _) (.cells awB 5 (16,17))).block w (by simp)).trans (dy w _);have k:((w.alloc (.cells awA 5 (4,5))).alloc (.cells awB 5 (16,17))).heap[w.heap.size+1]? =some (.cells awB 5 (16,17)):=by
  have:=dy (w.alloc (.cells awA 5 (4,5))) (.cells awB 5 (16,17));simpa using this
 have:=P6 (cap1:=4) (cap2:=16) m o (TY awH (by decide)) (TY awC (by decide)) (n.below p h) i k
  (by omega) (by omega) (by omega) (by decide) (by decide) (by decide) (by decide) (AU (rest:=[]) (by rfl)) (AU (rest:=[]) (by rfl))
 refine this.mono fun e g ⟨a,r,x,y,l⟩=>?_;obtain⟨b,f,cap,rfl,L,z⟩:=Xq y (by simp);have l:=p.trans (l.mono (by simp;omega));have at_:∀(j:Nat) (d:D),NA[j]? =some d->∃v,g.cell? (b,f+j)=some v/\RD r g d v:=fun j d A=>by
  have:=z 0 NA j d rfl A;simpa using this
 obtain⟨v7,B,d7⟩:=at_ 7 _ rfl;obtain⟨v6,C,d6⟩:=at_ 6 _ rfl;obtain⟨v2,E,d2⟩:=at_ 2 _ rfl;obtain⟨v3,F,d3⟩:=at_ 3 _ rfl;obtain⟨v4,H,d4⟩:=at_ 4 _ rfl;obtain⟨v5,I,d5⟩:=at_ 5 _ rfl;cases d6;cases d2;cases d3;cases d4;cases d5;cases d7 with
 |s _ t q=>
  have:t=⟨#[97]⟩:=by
   have J:=q.len
   match t,J with
   |⟨⟨[u]⟩⟩,_=>
    have K:=q.at_ 0 (.c 97) u rfl rfl;have:u=97:=UInt8.toNat_inj.1 (K.trans rfl);rw[this]
  subst this;exact⟨b,f,cap,x,l,B,C,E,F,H,I⟩
def pp(a:de.G=gS)(w:World)(d:nX w):Calls tp 11 #[] w fun e f=>e=true/\Below w w f:=by
 have g:=fun(w:World) (C:Array Value) (n c:Nat)=>Xw (P:=tp) w 32 5 C n c Tryz.underlying32 sw;have h:∀(w:World) (o:Obj) (C:Array Value) (n c:Nat),(convert 32 32 (.slice (some ⟨w.heap.size+1,0,none⟩) n c)).run tp ((w.alloc o).alloc (.cells C 5))=.ok (.slice (some ⟨w.heap.size+1,0,none⟩) n c) ((w.alloc o).alloc (.cells C 5 (C.size,C.size+1))):=fun w o C n c=>by
  have:=g (w.alloc o) C n c;simpa using this
 go_enter Tryz.func11,Tryz.ntmps11
 go_wp2_with (go_at_call 9;refine(Fp a w d).mono ?_)
 rintro e k ⟨b,i,cap,rfl,j,l,m,p,q,r,s⟩;go_wp2_with fail
 go_ret
 exact⟨rfl,j⟩
end
section
attribute[local instance] dZ
def vr(w:World)(s:ByteArray):Below w w (Lib.bytesWorld w 5 s):=
 ⟨rfl,rfl,rfl,by rw[FC];omega,fun k a=>Lib.bytesWorld_at_old w 5 s k a⟩
def Fq(w:World)(s:ByteArray):(Lib.bytesCells w 5 s).toList=s.data.toList.map (fun u=>Value.int .u8 u.toNat)++List.replicate (grownCap w s.size 0 5-s.size) (.int .u8 0):=by
 unfold Lib.bytesCells;simp
def qZ:Array Value:=#[.int .u8 116,.int .u8 100,.int .u8 32,.int .u8 123,.int .u8 32,.int .u8 98,.int .u8 97,.int .u8 99,.int .u8 107,.int .u8 103,.int .u8 114,.int .u8 111,.int .u8 117,.int .u8 110,.int .u8 100,.int .u8 58,.int .u8 32,.int .u8 114,.int .u8 101,.int .u8 100,.int .u8 32,.int .u8 125]
def Z5{b:Nat}{k:Nat×Nat}(p:w.heap[b]? =some (.cells qZ 5 k))(m:F b=22):RD F w Iu (b,22,22):=by
 have:=RD.l (F:=F) (w:=w) 1 (Hj.map fun n=>[.i .u8 (Int.ofNat n)]) b 0 22 qZ 5 k p (by rw[aj,m];decide) (by rw[m];decide) (by decide) (by rw[aj];decide) (fun r q=>by obtain⟨x,_,rfl⟩:=List.mem_map.1 q;rfl)
  (
   fun i r j d v a c o=>by
   have f:=(List.getElem?_eq_some_iff.1 a).1;rw[aj]at f;have f:i<22:=f;rw[ai]at a;cases g:Hj[i]? with
   |none=>rw[g]at a;cases a
   |some n=>
    rw[g]at a;cases a
    match j,c with
    |0,c=>
     cases c;have h:qZ[i]? =some (.int .u8 (Int.ofNat n)):=by
      have e:qZ=(Hj.map fun n=>Value.int .u8 (Int.ofNat n)).toArray:=rfl;rw[e,List.getElem?_toArray,ai,g];rfl
     rw[show 0+i*1+0=i by omega,h]at o;cases o;exact .i _ _
    |j+1,c=>simp at c)
 exact this
def Z7{b:Nat}{e:Int}{f:TypeId}{g:Nat×Nat}(k:w.heap[b]? =some (.cells #[e] f g))(h:F b=1):RD F w (gW [e]) (b,1,1):=by
 have:=RD.l (F:=F) (w:=w) 1 [[iN e]] b 0 1 #[e] f g k (by rw[h];exact ae 1) (by rw[h];exact ae 1) (ae 1) (ae 1) (fun r m=>by rw[bG.1 m];rfl)
  (
   fun i r j d v a c n=>by
   match i,a with
   |0,a=>
    cases a
    match j,c with
    |0,c=>cases c;cases n;exact .i _ _
    |j+1,c=>simp at c
   |i+1,a=>simp at a)
 exact this
def Fs{d:Int}(C:1<=d)(D:d<=500)(R:List (List Int))(y:nX w){a:ByteArray}(z:a.data.toList=nG (tabW R)):
 Calls tp 9 #[(w.heap.size,a.size,grownCap w a.size 0 5),(((Lib.bytesWorld w 5 a).heap.size),22,22),.agg #[(1048576:Int),(6400:Int),((Lib.bytesWorld w 5 a).heap.size+1,1,1)]]
  (((Lib.bytesWorld w 5 a).alloc (.cells qZ 5 (22,23))).alloc (.cells #[d] 2))
  fun e l=>∃v,e=tQ #[v,zQ]/\Below w w l/\l.ownsRow w 38 14 v (TU d R) (Z1 d R):=by
 have m:=y.lt;have E:=vr w a;have G:=Lib.bytesWorld_size w 5 a;have H:Below w w ((Lib.bytesWorld w 5 a).alloc (.cells qZ 5 (22,23))):=E.alloc (by omega) _;have h:((Lib.bytesWorld w 5 a).alloc (.cells qZ 5 (22,23))).heap.size=(Lib.bytesWorld w 5 a).heap.size+1:=by simp
 have n:Below w w (((Lib.bytesWorld w 5 a).alloc (.cells qZ 5 (22,23))).alloc (.cells #[d] 2)):=H.alloc (by omega) _;have p:(((Lib.bytesWorld w 5 a).alloc (.cells qZ 5 (22,23))).alloc (.cells #[d] 2)).heap[w.heap.size]? =some (.cells (Lib.bytesCells w 5 a) 5 ((Lib.bytesCells w 5 a).size,(Lib.bytesCells w 5 a).size+1)):=
  (aG _ _ (by omega)).trans ((aG _ _ (by omega)).trans (adb w 5 a))
 have q:(((Lib.bytesWorld w 5 a).alloc (.cells qZ 5 (22,23))).alloc (.cells #[d] 2)).heap[(Lib.bytesWorld w 5 a).heap.size]? =some (.cells qZ 5 (22,23)):=(aG _ _ (by omega)).trans (dy _ _);have r:(((Lib.bytesWorld w 5 a).alloc (.cells qZ 5 (22,23))).alloc (.cells #[d] 2)).heap[(Lib.bytesWorld w 5 a).heap.size+1]? =some (.cells #[d] 2):=by
  have:=dy ((Lib.bytesWorld w 5 a).alloc (.cells qZ 5 (22,23))) (.cells #[d] 2);rw[h]at this;exact this
 have i:=y.below n m;have I:(((Lib.bytesWorld w 5 a).alloc (.cells qZ 5 (22,23))).alloc (.cells #[d] 2)).heap.size=(Lib.bytesWorld w 5 a).heap.size+2:=by simp
 generalize (((Lib.bytesWorld w 5 a).alloc (.cells qZ 5 (22,23))).alloc (.cells #[d] 2))=w4 at*;generalize (Lib.bytesWorld w 5 a).heap.size=f at*
 let F:Nat->Nat:=fun b=>if b=f then 22 else if b=f+1 then 1 else if b=3 then 256 else 0
 have J:F f=22:=by simp[F]
 have K:F (f+1)=1:=by simp[F]
 have A:F 3=256:=by
  have s:¬3=f:=by omega
  have x:¬3=f+1:=by omega
  simp[F,s,x]
 have L:Gk F w4:=⟨by rw[A];exact ae _,fun c t W B=>by
  obtain⟨X,Y,M,N,O,-⟩:=i;rw[N]at B;cases B;rw[A];exact O,i,fun b Z=>by
  have s:¬b=f:=by omega
  have x:¬b=f+1:=by omega
  have P:¬b=3:=by omega
  simp[F,s,x,P]⟩
 have Q:(nG (tabW R)).length=a.size:=by rw[<-z];rfl
 have k:=Ja (cap:=grownCap w a.size 0 5) (g:=w.heap.size) (o:=0) C D R F w4 L (fun j u S=>by
  rw[jG w4 w _ _ _ _ p,Nat.zero_add];exact AU (Fq w a) j u (by rw[z];exact S)) (by have:=n.size;omega) _ (Z5 q J) _ 1 (Z7 r K)
 rw[Q]at k;exact k.mono fun e l ⟨v,T,U,V⟩=>⟨v,T,n.trans (U.mono (by omega)),eW V (by omega)⟩
end
def re{α:Type}(L:Nat->List α):∀(n i k:Nat) (x:α),i<n->(L i)[k]? =some x->((List.range n).flatMap L)[((List.range i).map fun j=>(L j).length).sum+k]? =some x
 |0,i,k,x,d,_=>by omega
 |n+1,i,k,x,d,c=>by
  rw[jH,bW,List.flatMap_singleton];have a:∀m,((List.range m).flatMap L).length=((List.range m).map fun j=>(L j).length).sum:=fun m=>by rw[li]
  by_cases h:i<n
  .have:=re L n i k x h c;rw[an (aa.1 this).1];exact this
  .have b:i=n:=by omega
   subst b;rw[ay (by rw[a];omega),a,Nat.add_sub_cancel_left];exact c
def vu:∀(i:Nat) (a:List (List Nat)),i<=a.length->fg a i=((List.range i).map fun j=>(a.getD j []).length).sum
 |0,a,_=>rfl
 |i+1,a,h=>by
  have b:i<a.length:=by omega
  rw[jX (af b),vu i a (by omega),jH,b9,xt];simp[ah,b]
def TZ(b:Int)(c:i<a.length)(d:k<(a.getD i []).length):(iq b a)[fg a i+k]? =some (vd b (bo b a) (sr 2 a i+1+2*k) k ((a.getD i []).getD k 0) (fU a i)):=by
 have h:=re (fun i=>jj b (bo b a) (sr 2 a i) (a.getD i []) (fU a i)) a.length i k (vd b (bo b a) (sr 2 a i+1+2*k) k ((a.getD i []).getD k 0) (fU a i)) c (by
  unfold jj;rw[ai,BI d];rfl)
 have e:((List.range i).map fun j=>(jj b (bo b a) (sr 2 a j) (a.getD j []) (fU a j)).length).sum=fg a i:=by
  rw[vu i a (by omega)]
  congr 1
  refine fa fun j _=>?_;unfold jj;rw[aj,ke]
 rw[e]at h;exact h
def T0:∀(l:List dO) (q j:Nat) (t:dO) (v:Value),(∀x∈l,(wH x).length=14)->l[q]? =some t->(wH t)[j]? =some v->(l.flatMap wH)[q*14+j]? =some v
 |[],q,j,t,v,_,h,_=>by simp at h
 |x::l,0,j,t,v,b,h,a=>by
  cases h;rw[bR,ez,bc,an (aa.1 a).1];exact a
 |x::l,q+1,j,t,v,b,h,a=>by
  have c:=b x (by simp);rw[bR,ay (by rw[c];omega),c];have:=T0 l q j t v (fun y d=>b y (by simp[d])) (by simpa using h) a;rw[show(q+1)*14+j-14=q*14+j by omega];exact this
def Jd(a:Int){Rn:List (List Nat)}(d:i<Rn.length)(e:k<(Rn.getD i []).length)(j:Nat)(v:Value)
 (f:(vg 1 ((sr 2 Rn i+1+2*k:Nat):Int) ⟨Num.cB (bo a Rn) k,fU Rn i,(bo a Rn).getD k 0,1280⟩ 4278190335 eQ 0)[j]? =some v):(xl (ja a Rn))[(fg Rn i+k)*14+j]? =some v:=by
 have b:∀x∈iq a Rn,(wH x).length=14:=fun x c=>by
  obtain⟨g,_,c⟩:=List.mem_flatMap.1 c;obtain⟨h,_,rfl⟩:=List.mem_map.1 c;rfl
 have:=T0 (iq a Rn) (fg Rn i+k) j _ v b (TZ a d e) f;rw[Lz,an (aa.1 this).1];exact this
open Go.ChangeShapes Go.WideShapes Go.Joins Go.Deep
def sf{a:Int}(h:Opn.Et a):(Lit.int .i64 a).wf=true:=by
 obtain⟨b,c⟩:=h;simp[Lit.wf,IntKind.min,IntKind.max,IntKind.signed,IntKind.bits];omega
def LD(a:Int)(b:Int)(c:Int)(d:Int)(m:Opn.Et a)(n:Opn.Et b)(o:Opn.Et c)(p:Opn.Et d):∃q,Tryz.prog.keyLits 6 35 (#[Value.int .i64 a,Value.int .i64 b,Value.int .i64 c,Value.int .i64 d]:Array Value).toList=some q:=by
 have i:Tryz.prog.underlying 35=some (.struct (Tryz.prog.fieldsOf 35)):=by kernel_rfl
 have j:Tryz.prog.cellsOf 35=4:=by kernel_rfl
 have g:Tryz.prog.cellsOf 2=1:=by kernel_rfl
 have h:∀(x:Int),(Lit.int .i64 x).wf=true->Tryz.prog.keyLits 5 2 [.int .i64 x]=some [.int .i64 x]:=by
  intro x r;simp[Program.keyLits,Tryz.underlying2,r]
 rw[show(6:Nat)=5+1 from rfl];unfold Program.keyLits;rw[i];dsimp only;rw[aS ⟨by rw[j];rfl,by kernel_rfl⟩];have s:(Tryz.prog.fieldsOf 35).toList.map (fun f=>(f.type,f.offset))=[(2,0),(2,1),(2,2),(2,3)]:=by kernel_rfl
 have t:∀(k:List Field) (l:List (TypeId×Nat)),k.map (fun f=>(f.type,f.offset))=l->(k.mapM fun f=>Tryz.prog.keyLits 5 f.type (((#[Value.int .i64 a,Value.int .i64 b,Value.int .i64 c,Value.int .i64 d]:Array Value).toList.drop f.offset).take (Tryz.prog.cellsOf f.type)))=(l.mapM fun f=>Tryz.prog.keyLits 5 f.1 (((#[Value.int .i64 a,Value.int .i64 b,Value.int .i64 c,Value.int .i64 d]:Array Value).toList.drop f.2).take (Tryz.prog.cellsOf f.1))):=by
  intro k l e;subst e;rw[List.mapM_map];rfl
 rw[t _ _ s];simp only[rf,List.mapM_nil,g];rw[show(((#[Value.int .i64 a,Value.int .i64 b,Value.int .i64 c,Value.int .i64 d]:Array Value).toList.drop 0).take 1)=[Value.int .i64 a]from rfl];rw[show(((#[Value.int .i64 a,Value.int .i64 b,Value.int .i64 c,Value.int .i64 d]:Array Value).toList.drop 1).take 1)=[Value.int .i64 b]from rfl];rw[show(((#[Value.int .i64 a,Value.int .i64 b,Value.int .i64 c,Value.int .i64 d]:Array Value).toList.drop 2).take 1)=[Value.int .i64 c]from rfl];rw[show(((#[Value.int .i64 a,Value.int .i64 b,Value.int .i64 c,Value.int .i64 d]:Array Value).toList.drop 3).take 1)=[Value.int .i64 d]from rfl];rw[h a (sf m)];rw[h b (sf n)];rw[h c (sf o)];rw[h d (sf p)];exact⟨_,rfl⟩
def T3(a:Int)(b:Int)(c:Int)(d:Int)(g:Opn.Et a)(h:Opn.Et b)(i:Opn.Et c)(j:Opn.Et d)(w:World):(Op.equalIn 10000 35 (.agg #[Value.int .i64 a,Value.int .i64 b,Value.int .i64 c,Value.int .i64 d]) (.agg #[Value.int .i64 a,Value.int .i64 b,Value.int .i64 c,Value.int .i64 d])).run tp w=.ok true w:=by
 obtain⟨f,e⟩:=LD a b c d g h i j;obtain⟨r,k,l⟩:=run_equalIn_deep (P:=tp) 9994 6 35 (by kernel_rfl) w 6 6 (.agg #[Value.int .i64 a,Value.int .i64 b,Value.int .i64 c,Value.int .i64 d]) (.agg #[Value.int .i64 a,Value.int .i64 b,Value.int .i64 c,Value.int .i64 d]) f f (by kernel_rfl) (by kernel_rfl) e e;rw[k,l.2 rfl]
def Dd(a:Int)(b:Int)(c:Int)(d:Int)(e:Opn.Et a)(f:Opn.Et b)(g:Opn.Et c)(h:Opn.Et d)(w:World):(binOp .neq 35 (.agg #[Value.int .i64 a,Value.int .i64 b,Value.int .i64 c,Value.int .i64 d]) (.agg #[Value.int .i64 a,Value.int .i64 b,Value.int .i64 c,Value.int .i64 d])).run tp w=.ok false w:=by
 have:=T3 a b c d e f g h w;simp only[binOp,Op.equal,Op.maxDepth,aB,this,aq];rfl
