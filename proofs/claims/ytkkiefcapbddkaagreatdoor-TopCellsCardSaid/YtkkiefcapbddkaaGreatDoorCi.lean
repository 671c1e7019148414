/- part of topCells.proved -/
import Derived.Test.YtkkiefcapbddkaaGreatDoorGh
set_option linter.all false
set_option maxRecDepth 1000000
set_option maxHeartbeats 0
noncomputable section
namespace Go.Abs
open Go.RowKit Go.Proofs YtkkiefcapbddkaaGreatDoor Mem ep Ord Num
variable{D:List Nat}{k n:Nat}
section
attribute[local instance] dZ
def RowsIn(w:World)(A:Option Addr)(R:List (List Int)):Prop:=∃a,lG w w A 1 PB a R
def abd:(Tryz.prog.info? 3).map (fun i=>(i.zero,i.size,i.bytes))=some (some (.int .i64 0),1,8):=by kernel_rfl
def wM(l:List Nat):(oC l).length=l.length:=by simp[oC]
def yh{w:World}{B g cap:Nat}(j:w.ownsRow B 3 1 (g,D.length,cap) D.length (oC D))(h:k<D.length):
 w.cell? (g,k)=some (.int .i64 (D.getD k 0:Nat))/\w.frozen? (g,k)=false/\g<w.heap.size/\B<=g/\(w.setCell (g,k) n).ownsRow B 3 1 (g,D.length,cap) D.length (oC (D.set k n)):=by
 obtain⟨l,i,b,d,a,f⟩:=IB j (by omega);injection b with b;injection b with b;subst b;have c:k<(oC D).length:=by rw[wM];exact h
 refine⟨?_,a.free k,a.lt,d,?_⟩
 .rw[a.cell,List.getElem?_toArray,an c];unfold oC;rw[ai,ah,af h];rfl
 .refine f _ _ (by rw[wM,wM,eI]) ?_;have:=a.put k n;have e:(oC D++i).toArray.setIfInBounds k n=(oC (D.set k n)++i).toArray:=by
   rw[fK,AX _ _ c];unfold oC;rw[List.map_set]
  rwa[e]at this
def sg{a:List (List Nat)}{i:Nat}(b:∀r∈a,r.length<=6)(e:i<=6):fg a i<=36:=by
 have h:∀l:List (List Nat),(∀r∈l,r.length<=6)->(l.map List.length).sum<=6*l.length:=by
  intro l;induction l with
  |nil=>intro _;simp
  |cons r l ih=>
   intro h;have f:=h r (by simp);have g:=ih fun x c=>h x (by simp[c]);simp only[bV,lI,aW];omega
 have:=h (a.take i) fun r d=>b r (List.mem_of_mem_take d);rw[aN]at this;unfold fg;omega
def LF{α:Type}(d:α):∀(l:List α),(List.range l.length).map (fun i=>l.getD i d)=l:=by
 intro l;apply kL
 .simp
 .intro i b a;simp[ah,a]
def Fu(b:Int)(a:List (List Nat)):(iq b a).length=fg a a.length:=by
 unfold iq fg;rw[li,bL]
 congr 1
 conv=>rhs;rw[<-LF [] a]
 rw[fj];refine fa fun i _=>?_;unfold jj;rw[aj,ke];rfl
def Je{av:Int}{Rn:List (List Nat)}(a:k<(fT [] Rn).length):(bo av Rn).getD k 0=(((fT [] Rn).getD k 0:Nat):Int)*av:=by
 unfold bo;rw[ah,ai,af a,List.getD_eq_getElem?_getD,af a];rfl
def NB(g n:Nat):(g:Addr).add n=(g,n):=by cases n<;>simp[Addr.add]
def xm{c:List (List Nat)}{a b:Nat}(h:a<=b):fg c a<=fg c b:=by
 unfold fg;have:=qY ((c.take b).map List.length) a;rw[<-Dh,Uf,Qa h]at this;exact this
def P7(h:k=D.length):pZ D k n=(D++[0]).set k n:=by
 unfold pZ;rw[aS h,h];simp
def T4(h:k<D.length)(a:D.getD k 0<n):pZ D k n=D.set k n:=by
 unfold pZ;rw[aI (by omega),adA (by omega)]
def P8(h:k<D.length)(a:¬D.getD k 0<n):pZ D k n=D:=by
 unfold pZ;rw[aI (by omega),adM (by omega),ah,af h];simp
def LG(R:List (List Int))(A:Option Addr)(c:Nat)(adv:Int)(w:World)(eq:RowsIn w A R)(hs:nX w)(hRl:R.length<=4611686018427387904)(mp:∀r∈R,r.length<=4611686018427387904):
 Calls tp 5 #[.slice A R.length c,adv] w fun e w'=>e=true/\Below w w w':=by
 obtain⟨vs,eq⟩:=eq;obtain⟨q1,q2,q3⟩:=AK R;obtain⟨i9,hi9,hy9,hw9,hv9⟩:=info_parts abd;have UV:∀r∈bZ R,∀n∈r,n<=9:=fun r hr n hn=>(q3 r hr n hn).2;have WF:∀i,i<=6->(ss (bZ R) i).length<=492:=fun i hi=>TW _ i hi q2 UV;have hwa:=LB adv w;obtain⟨K,WP⟩:=iG (1+adv % 500);rw[<-WP]at hwa;replace WF:=aU WF;replace UV:=aU UV;replace q2:=aU q2;replace q3:=aU q3;replace mp:=aU mp;replace WP:=aU WP;replace eq:=aU eq;go_enter adC,Tryz.ntmps5
 go_wp2_with (go_at_call 8;go_loud (refine hwa.mono ?_;rintro e w1 ⟨rfl,rfl⟩))
 go_loopw [5,6,7,8] (fun s5 s6 s7 s8 wr=>∃(i:Nat) (o:ByteArray) (v:Value),i<=R.length/\i<=6/\s5=o/\s6=v/\s7=(fg (bZ R) i)/\s8=i/\Below w w wr/\wr.ownsRow w 3 1 v (sK (bZ R) i).length (oC (sK (bZ R) i))/\Hid (o.data.toList=ss (bZ R) i)) (fun _ _ _ s _=>R.length-(intOf s).toNat)
 case atStart=>exact⟨0,eQ,_,Nat.zero_le _,by omega,rfl,rfl,rfl,rfl,Below.refl _ _,dl _ _ _ _,aU rfl⟩
 case round=>
  obtain⟨i,o,v,hi,hi6,rfl,rfl,rfl,rfl,Q,S,hO⟩:=hrel;obtain⟨Av,cv,rfl,-⟩:=aV S;have hos:o.size<=492:=by rw[Nz,hO.out];exact WF.out i hi6
  by_cases hlt:i<R.length/\i<6
  .have d1:=lJ i R.length (by omega);have d2:decide ((i:Int)<6)=true:=bf (by omega);obtain⟨b,l,Ar,cr,r,rfl,hb,hr,d,hrc,I⟩:=eq.out.at_ hlt.1;have am:wr.cell? (b,l+i)=some (.slice Ar r.length cr):=(Q.cell (p:=(b,l+i)) hb).trans d;have a:=AT hr.out hlt.2;have hr9:=UV.out _ (List.mem_of_getElem? a);have hr1:=q3.out _ (List.mem_of_getElem? a);have n6:=mp.out r (List.mem_of_getElem? hr.out);obtain⟨B,F⟩:=iG (Jc r);rw[<-F]at a hr9 hr1;have t:B.length=min 6 r.length:=by rw[F];exact AS r
   obtain⟨y1,hy1⟩:∃y,o++(⟨#[60,116,114,62]⟩:ByteArray)=y:=⟨_,rfl⟩;have a1:=run_string_add_sum (P:=tp) (w:=wr) o ⟨#[60,116,114,62]⟩ (by show o.size+4<=_;omega);rw[hy1]at a1;have n1:¬(o.size+4>9223372036854775807):=by omega
   have hz1:y1.data.toList=ss (bZ R) i++[60,116,114,62]:=by rw[<-hy1,AQ,hO.out]
   replace hz1:=aU hz1;replace F:=aU F;replace t:=aU t;replace a:=aU a;replace hr9:=aU hr9;replace hr1:=aU hr1;replace I:=aU I;replace hy1:=trivial;obtain⟨C0,pm⟩:=iG (sK (bZ R) i);rw[<-pm]at S|-;obtain⟨N0,T⟩:=iG (fg (bZ R) i);rw[<-T];replace pm:=aU pm;have i8:N0<=36:=by rw[T];exact sg q2.out hi6
   replace i8:=aU i8;replace T:=aU T;go_upto_region 10 with fail
   go_loopw [5,6,7,9] (fun s5 s6 s7 s9 wx=>∃(k:Nat) (o2:ByteArray) (v2:Value),k<=r.length/\k<=6/\s5=o2/\s6=v2/\s7=.int .i64 ((N0+k:Nat):Int)/\s9=k/\Below w w wx/\wx.ownsRow w 3 1 v2 (pe 0 C0 (B.take k)).length (oC (pe 0 C0 (B.take k)))/\Hid (o2.data.toList=ss (bZ R) i++([60,116,114,62]++wK B k))) (fun _ _ _ s _=>r.length-(intOf s).toNat)
   case atStart=>exact⟨0,y1,_,Nat.zero_le _,by omega,rfl,rfl,by simp,rfl,Q,S,aU (by rw[hz1.out];simp[wK,hC])⟩
   case round=>
    clear Q S hO am a1;obtain⟨k,o2,v2,hk,hk6,rfl,rfl,rfl,rfl,Q,S,hO⟩:=hrel;obtain⟨Av,cv,rfl,-⟩:=aV S;have hos2:o2.size<=580:=by
     have h1:=WF.out i hi6;have h2:=TV B k hk6 hr9.out;rw[Nz,hO.out,List.length_append,aO];simp only[aW,eJ];omega
    have am:wr.cell? (b,l+i)=some (.slice Ar r.length cr):=(Q.cell (p:=(b,l+i)) hb).trans d;by_cases jp:k<r.length/\k<6
    .have d3:=lJ k r.length (by omega);have d4:decide ((k:Int)<6)=true:=bf (by omega);obtain⟨b2,off2,x,rfl,U,hx,hcx⟩:=I.out.at_ jp.1;have hcxw:wr.cell? (b2,off2+k)=x:=by
      have:=hcx 0 x rfl;rw[iM,dI]at this;exact(Q.cell (p:=(b2,off2+k)) U).trans this
     replace hcx:=trivial;have V:B[k]? =some (wN x):=by rw[F.out];exact Xn hx.out jp.2
     obtain⟨n1',n2'⟩:=hr1.out _ (List.mem_of_getElem? V);have hww:=Jb x wr;obtain⟨n,hn⟩:=iG (wN x);rw[<-hn]at V n1' n2' hww;replace hn:=aU hn;replace V:=aU V;obtain⟨y2,hy2⟩:∃y,o2++(⟨#[60,116,100,62]⟩:ByteArray)=y:=⟨_,rfl⟩;have a2:=run_string_add_sum (P:=tp) (w:=wr) o2 ⟨#[60,116,100,62]⟩ (by show o2.size+4<=_;omega);rw[hy2]at a2;have n2:¬(o2.size+4>9223372036854775807):=by omega
     have hz2:y2.data.toList=ss (bZ R) i++([60,116,114,62]++(wK B k++[60,116,100,62])):=by rw[<-hy2,AQ,hO.out];simp
     have hy2s:y2.size<=590:=by rw[<-hy2,ByteArray.size_append];show o2.size+4<=590;omega
     replace hz2:=aU hz2;replace hy2:=trivial;go_upto_region 15 with(go_at_call 8;go_loud (refine hww.mono ?_;rintro e w1 ⟨rfl,rfl⟩))
     obtain⟨Ck,lw⟩:=iG (pe 0 C0 (B.take k));have hkc:k<=Ck.length:=by
      rw[lw,uW _ _ _ (Nat.zero_le _),List.length_take];have:=t.out;omega
     have hkc6:Ck.length<=6:=by
      rw[lw,uW _ _ _ (Nat.zero_le _),List.length_take];have:=t.out;have hc0:C0.length<=6:=by
       rw[pm.out];exact(iR ((bZ R).take i) [] 6 (by simp) (fun r hr=>q2.out r (List.mem_of_mem_take hr))).1
      omega
     have qr:pe 0 C0 (B.take (k+1))=pZ Ck k n:=by
      rw[ml V.out,Dc,<-lw,List.length_take]
      congr 1
      have:=(aa.1 V.out).1;omega
     rw[<-lw]at S|-;replace lw:=aU lw;replace qr:=aU qr;go_loopw [5,11] (fun s5 s11 wx=>∃(j:Nat) (o3:ByteArray),j<=n/\s5=o3/\s11=j/\wx=wr/\Hid (o3.data.toList=ss (bZ R) i++([60,116,114,62]++(wK B k++([60,116,100,62]++List.replicate j 119))))/\o3.size<=590+j) (fun _ s _=>n-(intOf s).toNat)
     case atStart=>exact⟨0,y2,Nat.zero_le _,rfl,rfl,rfl,aU (by rw[hz2.out];simp),hy2s⟩
     case round=>
      obtain⟨j,o3,hj,rfl,rfl,rfl,hO3,hs3⟩:=hrel;by_cases hltj:j<n
      .have d5:=lJ j n (by omega);obtain⟨y3,hy3⟩:∃y,o3++(⟨#[119]⟩:ByteArray)=y:=⟨_,rfl⟩;have a3:=run_string_add_sum (P:=tp) (w:=wr) o3 ⟨#[119]⟩ (by show o3.size+1<=_;omega);rw[hy3]at a3;have n3:¬(o3.size+1>9223372036854775807):=by omega
       have hz3:y3.data.toList=ss (bZ R) i++([60,116,114,62]++(wK B k++([60,116,100,62]++List.replicate (j+1) 119))):=by
        rw[<-hy3,AQ,hO3.out,List.replicate_succ'];simp
       have hy3s:y3.size<=590+(j+1):=by rw[<-hy3,ByteArray.size_append];show o3.size+1<=_;omega
       replace hz3:=aU hz3;replace hy3:=trivial;go_wp2_with fail
       go_roundw
       case rel=>exact⟨j+1,y3,by omega,rfl,by go_num,trivial,hz3,hy3s⟩
       case measure=>simp[intOf];omega
      .have hje:n=j:=by omega
       subst hje;have d5:=Di n n (by omega);have hBs:=Q.size;have w7:IntKind.i64.wrap ((N0:Int)+(k:Int)+1)=((N0+(k+1):Nat):Int):=by rw[bE _ (by have:=i8.out;omega)];omega
       by_cases rg:k=Ck.length
       .have e1:((k:Int)==(Ck.length:Int))=true:=by simp[rg]
        have d6:decide ((0:Int)<(n:Int))=true:=bf (by omega);go_wp2_with (refine cR _ _ _ _ rfl ?_)
        refine⟨?_⟩;have ho4:=S.alloc (.cells #[zQ] 3);have hB4:=Q.alloc hBs (.cells #[zQ] 3);have hnw:=df (aE.new wr 3 #[zQ]) (news:=[zQ]) rfl;refine bD _ rfl (.tmp 68) (.tmp 69) 22 rfl w 3 i9 zQ 1 8 fD hi9 hy9 hw9 hv9 rfl (by decide) (.slice Av Ck.length cv) _ _ rfl ho4 wr 1 1 [zQ] rfl rfl hnw (by simp[Value.oneCell']) (by unfold maxLen;omega) (by omega) (by simp;omega) ?_;intro v5 w5 ho5 hg5 hf5;have hB5:=dw hB4 ho4 hg5 (Nat.le_refl _) (by simp;omega);obtain⟨D,hD⟩:=iG (Ck++[0]);have hDl:D.length=Ck.length+1:=by rw[hD];simp
        have ho6:w5.ownsRow w 3 1 v5 D.length (oC D):=by
         rw[hDl,hD];simpa[oC]using ho5
        obtain⟨g5,c5,rfl,un,-,-⟩:=dL ho6 (by omega);obtain⟨p1,p2,p3,p4,p5⟩:=yh (k:=k) (n:=n) ho6 (by omega);have hD0:D.getD k 0=0:=by rw[hD,rg];simp
        rw[hD0]at p1;have p1:w5.cell? (g5,k)=zQ:=p1;have d7:=lJ k D.length (by omega);have ut:pZ Ck k n=D.set k n:=by rw[hD];exact P7 rg
        have wl:=fp.setCell w5 (g5,k) n;have hB7:=hB5.trans (wl.below p4);have hkD:k<D.length:=by omega
        replace hD:=aU hD;replace hDl:=aU hDl;replace rg:=aU rg;clear ho4 hB4 hnw ho5 hg5 hf5 hB5 wl S ho6 Q;(try simp only[Act.put,zA,zB,zC]);go_wp2_with fail
        go_roundw
        case rel=>
         refine⟨k+1,o3,_,by omega,by omega,rfl,rfl,by first|rfl|(rw[w7])|(go_num),by go_num,hB7,?_,aU ?_⟩
         .rw[qr.out,ut];simpa using p5
         .rw[hO3.out,wL V.out]
        case measure=>simp[intOf];omega
       .have e1:((k:Int)==(Ck.length:Int))=false:=by simp;omega
        have hkD:k<Ck.length:=by omega
        have d7:=lJ k Ck.length (by omega);obtain⟨g5,c5,wn,un,-,-⟩:=dL S (by omega);injection wn with z1 z2 z3;subst z1;clear z2 z3;obtain⟨p1,p2,p3,p4,p5⟩:=yh (k:=k) (n:=n) S hkD;obtain⟨m,hm⟩:=iG (Ck.getD k 0);rw[<-hm]at p1;by_cases hmn:m<n
        .have d6:=lJ m n (by omega);have ut:pZ Ck k n=Ck.set k n:=T4 hkD (by omega);have wl:=fp.setCell wr (g5,k) n;have hB7:=Q.trans (wl.below p4);replace hm:=aU hm;clear wl S Q;go_wp2_with fail
         go_roundw
         case rel=>
          refine⟨k+1,o3,_,by omega,by omega,rfl,rfl,by first|rfl|(rw[w7])|(go_num),by go_num,hB7,?_,aU ?_⟩
          .rw[qr.out,ut];simpa using p5
          .rw[hO3.out,wL V.out]
         case measure=>simp[intOf];omega
        .have d6:=Di m n (by omega);have ut:pZ Ck k n=Ck:=P8 hkD (by omega);replace hm:=aU hm;go_wp2_with fail
         go_roundw
         case rel=>
          refine⟨k+1,o3,_,by omega,by omega,rfl,rfl,by first|rfl|(rw[w7])|(go_num),by go_num,Q,?_,aU ?_⟩
          .rw[qr.out,ut];exact S
          .rw[hO3.out,wL V.out]
         case measure=>simp[intOf];omega
    .have G:k=B.length:=by
      have:=t.out;omega
     have hcs:((fg (bZ R) (i+1):Nat):Int)=(N0:Int)+(k:Int):=by
      rw[jX a.out,<-T.out,<-G];simp
     have hcc:sK (bZ R) (i+1)=pe 0 C0 (B.take k):=by rw[LC a.out,<-pm.out,G,List.take_length]
     have hdd:ss (bZ R) (i+1)=ss (bZ R) i++([60,116,114,62]++wK B k):=by rw[P5 a.out,G]
     replace G:=aU G;replace hcs:=aU hcs;replace hcc:=aU hcc;replace hdd:=aU hdd;by_cases hkr:k<r.length
     .have d3:=lJ k r.length (by omega);have d4:decide ((k:Int)<6)=false:=aA (by omega);go_wp2_with fail
      go_roundw
      case rel=>
       refine⟨i+1,o2,_,by omega,by omega,rfl,rfl,by rw[hcs.out];first|rfl|(congr 1;omega)|simp,by go_num,Q,?_,aU ?_⟩
       .rw[hcc.out];exact S
       .rw[hdd.out];exact hO.out
      case measure=>simp[intOf];omega
     .have d3:=Di k r.length (by omega);go_wp2_with fail
      go_roundw
      case rel=>
       refine⟨i+1,o2,_,by omega,by omega,rfl,rfl,by rw[hcs.out];first|rfl|(congr 1;omega)|simp,by go_num,Q,?_,aU ?_⟩
       .rw[hcc.out];exact S
       .rw[hdd.out];exact hO.out
      case measure=>simp[intOf];omega
  .have a5:i=(bZ R).length:=by rw[wJ];omega
   obtain⟨x1,hx1⟩:∃y,(⟨#[60,116,97,98,108,101,62]⟩:ByteArray)++o=y:=⟨_,rfl⟩;obtain⟨sH,hsH⟩:∃y,x1++(⟨#[60,47,116,97,98,108,101,62]⟩:ByteArray)=y:=⟨_,rfl⟩;have z1:x1.size=7+o.size:=by rw[<-hx1,ByteArray.size_append];rfl
   have HH:sH.data.toList=nG (tabW R):=by rw[<-hsH,AQ,<-hx1,AQ,hO.out,Xo,<-a5];simp
   have kb1:=Lib.run_convert_string_bytes (P:=tp) wr 9 32 5 sH Tryz.underlying9 Bd sw;have kc1:=Lib.run_convert_bytes_const (P:=tp) (Lib.bytesWorld wr 5 sH) 32 5 qZ 22 22 Bd sw;have a1:=run_string_add_sum (P:=tp) (w:=wr) ⟨#[60,116,97,98,108,101,62]⟩ o (by show 7+o.size<=_;omega);have a2:=run_string_add_sum (P:=tp) (w:=wr) x1 ⟨#[60,47,116,97,98,108,101,62]⟩ (by show x1.size+8<=_;omega);rw[hx1]at a1;rw[hsH]at a2;have n1:¬(7+o.size>9223372036854775807):=by omega
   have n2:¬(x1.size+8>9223372036854775807):=by omega
   have hsr:nX wr:=hs.below Q hs.lt;have E:1<=K/\K<=500:=by have:=WP.out;omega
   have a9:=Fs E.1 E.2 R hsr HH;obtain⟨C,hC⟩:=iG (sK (bZ R) i);rw[<-hC]at S|-;obtain⟨N,hN⟩:=iG (fg (bZ R) i);rw[<-hN];have hon:TU K R=2*N:=by rw[hN,a5];unfold TU;rw[TT,Fu]
   have i8:N<=36:=by rw[hN];exact sg q2.out hi6
   rw[hon]at a9;replace hon:=aU hon;replace hC:=aU hC;replace hN:=aU hN;replace a5:=aU a5;replace HH:=aU HH;replace a9:=aU a9;unfold qZ at kc1;clear hx1 hsH z1;by_cases hir:i<R.length
   .have d1:=lJ i R.length (by omega);have d2:decide ((i:Int)<6)=false:=aA (by omega);have w8:IntKind.i64.wrap (2*(N:Int))=((2*N:Nat):Int):=by rw[bE _ (by omega)];omega
    go_upto_region 26 with(go_at_call 9;go_loud (refine a9.out.mono ?_;rintro e w2 ⟨v2,rfl,U,ge⟩;obtain⟨A2,c2,rfl,-⟩:=aV ge))
    have ww:=ca S U;have u:=Q.trans (U.mono Q.size);have Do:=hs.below u hs.lt;clear U S Q hO kb1 kc1 a1 a2 n1 n2 hsr d1 d2;go_wp2_with fail
    go_loopw [14,15,16] (fun g7 s15 s16 wx=>∃p:Nat,p<=R.length/\p<=6/\g7=(fg (bZ R) p)/\s15=(fU (bZ R) p)/\s16=p/\wx=w2) (fun _ _ s _=>R.length-(intOf s).toNat)
    case atStart=>exact⟨0,aM _,by omega,rfl,rfl,rfl,rfl⟩
    case round=>
     obtain⟨p,hp,H1,rfl,rfl,rfl,rfl⟩:=hrel;by_cases em:p<R.length/\p<6
     .have d1:=lJ p R.length (by omega);have d2:decide ((p:Int)<6)=true:=bf (by omega);obtain⟨b,l,Ar,cr,r,rfl,hb,hr,d,hrc,I⟩:=eq.out.at_ em.1;have am:wr.cell? (b,l+p)=some (.slice Ar r.length cr):=(u.cell (p:=(b,l+p)) hb).trans d;have a:=AT hr.out em.2;obtain⟨B,F⟩:=iG (Jc r);rw[<-F]at a;have t:B.length=min 6 r.length:=by rw[F];exact AS r
      have n6:=mp.out r (List.mem_of_getElem? hr.out);have hyb:=AA (bZ R) p H1;obtain⟨Y,hY⟩:=iG (fU (bZ R) p);obtain⟨P0,H⟩:=iG (fg (bZ R) p);have hP36:P0<=36:=by rw[H];exact sg q2.out H1
      rw[<-hY]at hyb;rw[<-hY,<-H];replace hY:=aU hY;replace H:=aU H;replace F:=aU F;replace t:=aU t;replace a:=aU a;replace hr:=aU hr;replace I:=aU I;go_upto_region 33 with fail
      go_loopw [14,17,18] (fun g7 s17 s18 wx=>∃k:Nat,k<=r.length/\k<=6/\g7=.int .i64 ((P0+k:Nat):Int)/\s17=(cB (bo K (bZ R)) k)/\s18=k/\wx=wr) (fun _ _ s _=>r.length-(intOf s).toNat)
      case atStart=>exact⟨0,aM _,by omega,by simp,rfl,rfl,rfl⟩
      case round=>
       obtain⟨k,hk,hk6,rfl,rfl,rfl,rfl⟩:=hrel;by_cases jp:k<r.length/\k<6
       .have d3:=lJ k r.length (by omega);have d4:decide ((k:Int)<6)=true:=bf (by omega);have hkn:k<B.length:=by have:=t.out;omega
        have hpl:p<(bZ R).length:=by rw[wJ];omega
        have In:(bZ R).getD p []=B:=by rw[ah,a.out];rfl
        have L:C=fT [] (bZ R):=by rw[hC.out,a5.out];unfold sK;rw[bL]
        have g8:k<C.length:=by
         rw[L];have:=(iR (bZ R) [] 6 (by simp) q2.out).2.2 _ (List.mem_of_getElem? a.out);omega
        obtain⟨g5,c5,wn,un,-,-⟩:=dL ww (by omega);injection wn with z1 z2 z3;subst z1;clear z2 z3;have cc:=(yh (k:=k) (n:=0) ww g8).1;have M:=Je (av:=K) (Rn:=bZ R) (k:=k) (by rw[<-L];exact g8);rw[<-L]at M;have hwb:=r7 E.1 E.2 q3.out k (by simp only[bo,aj];rw[<-L];exact g8);have hxb:=Fa E.1 E.2 q3.out (Rn:=bZ R) k (by omega);have ii:cB (bo K (bZ R)) (k+1)=add (cB (bo K (bZ R)) k) ((bo K (bZ R)).getD k 0):=rfl;have z:=fun j v hv=>Jd K (Rn:=bZ R) (i:=p) (k:=k) hpl (by rw[In];exact hkn) j v hv;rw[<-H.out,<-hY.out]at z;obtain⟨W,hW⟩:=iG ((bo K (bZ R)).getD k 0);obtain⟨X,hX⟩:=iG (cB (bo K (bZ R)) k);rw[<-hW,<-hX]at ii z;rw[<-hW]at M hwb;rw[<-hX]at hxb|-;obtain⟨cn,io⟩:=iG (C.getD k 0);rw[<-io]at cc M;have e5:IntKind.i64.wrap ((cn:Int)*K)=W:=by rw[<-M];exact bE _ (by omega)
        have e6:IntKind.i64.wrap (X+W)=cB (bo K (bZ R)) (k+1):=by
         rw[ii,IntWalk.i64_in _ (by omega)];unfold add sat;omega
        have e7:IntKind.i64.wrap (((P0+k:Nat):Int)+1)=((P0+(k+1):Nat):Int):=by rw[bE _ (by omega)];omega
        have T:P0+k<N:=by
         have h1:=jX a.out;have h2:fg (bZ R) (p+1)<=fg (bZ R) (bZ R).length:=xm (by omega);rw[hN.out,a5.out];rw[<-H.out]at h1;omega
        obtain⟨g6,c6,hA6,-,-,-⟩:=dL ge (by omega);injection hA6 with z1 z2 z3;subst z1;clear z2 z3;obtain⟨q,hq⟩:=iG (P0+k);rw[<-hq]at z T e7|-;have J:∀j v,(vg 1 ((sr 2 (bZ R) p+1+2*k:Nat):Int) ⟨X,Y,W,1280⟩ 4278190335 eQ 0)[j]? =some v->wr.cell? (g6,q*14+j)=some v:=fun j v hv=>by
         have:=ge.cells (g:=g6) rfl (q*14+j) v (z j v hv);rwa[NB]at this
        have i0:wr.cell? (g6,q*14)=zJ:=J 0 _ rfl;have i2:wr.cell? (g6,q*14+2)=X:=J 2 _ rfl;have i3:wr.cell? (g6,q*14+3)=Y:=J 3 _ rfl;have i4:wr.cell? (g6,q*14+4)=W:=J 4 _ rfl;have i5:wr.cell? (g6,q*14+5)=z9:=J 5 _ rfl;have heq:=Dd X Y W 1280 ⟨by omega,by omega⟩ ⟨by omega,by omega⟩ ⟨by omega,by omega⟩ ⟨by omega,by omega⟩;have am:wr.cell? (b,l+p)=some (.slice Ar r.length cr):=(u.cell (p:=(b,l+p)) hb).trans d;have d7:=lJ k C.length (by omega);have d8:=lJ q (2*N:Nat) (by omega);replace J:=trivial;replace z:=trivial;replace hW:=aU hW;replace hX:=aU hX;replace io:=aU io;replace hq:=aU hq;replace ii:=trivial;replace M:=trivial;replace L:=trivial;replace In:=trivial;go_wp2_with fail
        go_roundw
        case rel=>exact⟨k+1,by omega,by omega,dY (Value.int _) (by push_cast;omega),rfl,by go_num,trivial⟩
        case measure=>simp[intOf];omega
       .have G:k=B.length:=by have:=t.out;omega
        have Z:add Y (iZ B)=fU (bZ R) (p+1):=by rw[hY.out];exact AJ a.out q1
        have f:P0+k=fg (bZ R) (p+1):=by rw[jX a.out,<-H.out,G]
        have e8:0<B.length->IntKind.i64.wrap (Y+1280)=fU (bZ R) (p+1):=fun h=>by
         have hne:B≠[]:=fun h0=>by rw[h0]at h;exact absurd h (by simp)
         rw[<-Z,IntWalk.i64_in _ (by omega)];unfold iZ add sat;rw[aI hne];omega
        have e9:B.length=0->Y=fU (bZ R) (p+1):=fun h=>by
         rw[<-Z];unfold iZ add sat;rw[aS (lX.1 h)];omega
        replace Z:=aU Z;have am:wr.cell? (b,l+p)=some (.slice Ar r.length cr):=(u.cell (p:=(b,l+p)) hb).trans d;have O:=t.out;by_cases hkr:k<r.length
        .have d3:=lJ k r.length (by omega);have d4:decide ((k:Int)<6)=false:=aA (by omega);have d5:decide ((0:Int)<(r.length:Int))=true:=bf (by omega);replace e8:=e8 (by omega);replace e9:=trivial;replace G:=trivial;replace O:=trivial;replace f:=aU f;go_wp2_with fail
         go_roundw
         case rel=>exact⟨p+1,by omega,by omega,dY (fun x:Nat=>Value.int .i64 (x:Int)) f.out,rfl,by go_num,trivial⟩
         case measure=>simp[intOf];omega
        .have d3:=Di k r.length (by omega);by_cases hr0:0<r.length
         .have d5:decide ((0:Int)<(r.length:Int))=true:=bf (by omega);replace e8:=e8 (by omega);replace e9:=trivial;replace G:=trivial;replace O:=trivial;replace f:=aU f;go_wp2_with fail
          go_roundw
          case rel=>exact⟨p+1,by omega,by omega,dY (fun x:Nat=>Value.int .i64 (x:Int)) f.out,rfl,by go_num,trivial⟩
          case measure=>simp[intOf];omega
         .have d5:decide ((0:Int)<(r.length:Int))=false:=aA (by omega);replace e9:=e9 (by omega);replace e8:=trivial;replace G:=trivial;replace O:=trivial;replace f:=aU f;go_wp2_with fail
          go_roundw
          case rel=>exact⟨p+1,by omega,by omega,dY (fun x:Nat=>Value.int .i64 (x:Int)) f.out,congrArg (Value.int .i64) e9,by go_num,trivial⟩
          case measure=>simp[intOf];omega
     .by_cases hpR:p<R.length
      .have d1:=lJ p R.length (by omega);have d2:decide ((p:Int)<6)=false:=aA (by omega);go_wp2_with (go_at_call 11;go_loud (refine(pp rfl _ Do).mono ?_;rintro e w3 ⟨rfl,ip⟩))
       go_ret
       exact⟨rfl,u.trans (ip.mono u.size)⟩
      .have d1:=Di p R.length (by omega);go_wp2_with (go_at_call 11;go_loud (refine(pp rfl _ Do).mono ?_;rintro e w3 ⟨rfl,ip⟩))
       go_ret
       exact⟨rfl,u.trans (ip.mono u.size)⟩
   .have d1:=Di i R.length (by omega);have w8:IntKind.i64.wrap (2*(N:Int))=((2*N:Nat):Int):=by rw[bE _ (by omega)];omega
    go_upto_region 26 with(go_at_call 9;go_loud (refine a9.out.mono ?_;rintro e w2 ⟨v2,rfl,U,ge⟩;obtain⟨A2,c2,rfl,-⟩:=aV ge))
    have ww:=ca S U;have u:=Q.trans (U.mono Q.size);have Do:=hs.below u hs.lt;clear U S Q hO kb1 kc1 a1 a2 n1 n2 hsr d1;go_wp2_with fail
    go_loopw [14,15,16] (fun g7 s15 s16 wx=>∃p:Nat,p<=R.length/\p<=6/\g7=(fg (bZ R) p)/\s15=(fU (bZ R) p)/\s16=p/\wx=w2) (fun _ _ s _=>R.length-(intOf s).toNat)
    case atStart=>exact⟨0,aM _,by omega,rfl,rfl,rfl,rfl⟩
    case round=>
     obtain⟨p,hp,H1,rfl,rfl,rfl,rfl⟩:=hrel;by_cases em:p<R.length/\p<6
     .have d1:=lJ p R.length (by omega);have d2:decide ((p:Int)<6)=true:=bf (by omega);obtain⟨b,l,Ar,cr,r,rfl,hb,hr,d,hrc,I⟩:=eq.out.at_ em.1;have am:wr.cell? (b,l+p)=some (.slice Ar r.length cr):=(u.cell (p:=(b,l+p)) hb).trans d;have a:=AT hr.out em.2;obtain⟨B,F⟩:=iG (Jc r);rw[<-F]at a;have t:B.length=min 6 r.length:=by rw[F];exact AS r
      have n6:=mp.out r (List.mem_of_getElem? hr.out);have hyb:=AA (bZ R) p H1;obtain⟨Y,hY⟩:=iG (fU (bZ R) p);obtain⟨P0,H⟩:=iG (fg (bZ R) p);have hP36:P0<=36:=by rw[H];exact sg q2.out H1
      rw[<-hY]at hyb;rw[<-hY,<-H];replace hY:=aU hY;replace H:=aU H;replace F:=aU F;replace t:=aU t;replace a:=aU a;replace hr:=aU hr;replace I:=aU I;go_upto_region 33 with fail
      go_loopw [14,17,18] (fun g7 s17 s18 wx=>∃k:Nat,k<=r.length/\k<=6/\g7=.int .i64 ((P0+k:Nat):Int)/\s17=(cB (bo K (bZ R)) k)/\s18=k/\wx=wr) (fun _ _ s _=>r.length-(intOf s).toNat)
      case atStart=>exact⟨0,aM _,by omega,by simp,rfl,rfl,rfl⟩
      case round=>
       obtain⟨k,hk,hk6,rfl,rfl,rfl,rfl⟩:=hrel;by_cases jp:k<r.length/\k<6
       .have d3:=lJ k r.length (by omega);have d4:decide ((k:Int)<6)=true:=bf (by omega);have hkn:k<B.length:=by have:=t.out;omega
        have hpl:p<(bZ R).length:=by rw[wJ];omega
        have In:(bZ R).getD p []=B:=by rw[ah,a.out];rfl
        have L:C=fT [] (bZ R):=by rw[hC.out,a5.out];unfold sK;rw[bL]
        have g8:k<C.length:=by
         rw[L];have:=(iR (bZ R) [] 6 (by simp) q2.out).2.2 _ (List.mem_of_getElem? a.out);omega
        obtain⟨g5,c5,wn,un,-,-⟩:=dL ww (by omega);injection wn with z1 z2 z3;subst z1;clear z2 z3;have cc:=(yh (k:=k) (n:=0) ww g8).1;have M:=Je (av:=K) (Rn:=bZ R) (k:=k) (by rw[<-L];exact g8);rw[<-L]at M;have hwb:=r7 E.1 E.2 q3.out k (by simp only[bo,aj];rw[<-L];exact g8);have hxb:=Fa E.1 E.2 q3.out (Rn:=bZ R) k (by omega);have ii:cB (bo K (bZ R)) (k+1)=add (cB (bo K (bZ R)) k) ((bo K (bZ R)).getD k 0):=rfl;have z:=fun j v hv=>Jd K (Rn:=bZ R) (i:=p) (k:=k) hpl (by rw[In];exact hkn) j v hv;rw[<-H.out,<-hY.out]at z;obtain⟨W,hW⟩:=iG ((bo K (bZ R)).getD k 0);obtain⟨X,hX⟩:=iG (cB (bo K (bZ R)) k);rw[<-hW,<-hX]at ii z;rw[<-hW]at M hwb;rw[<-hX]at hxb|-;obtain⟨cn,io⟩:=iG (C.getD k 0);rw[<-io]at cc M;have e5:IntKind.i64.wrap ((cn:Int)*K)=W:=by rw[<-M];exact bE _ (by omega)
        have e6:IntKind.i64.wrap (X+W)=cB (bo K (bZ R)) (k+1):=by
         rw[ii,IntWalk.i64_in _ (by omega)];unfold add sat;omega
        have e7:IntKind.i64.wrap (((P0+k:Nat):Int)+1)=((P0+(k+1):Nat):Int):=by rw[bE _ (by omega)];omega
        have T:P0+k<N:=by
         have h1:=jX a.out;have h2:fg (bZ R) (p+1)<=fg (bZ R) (bZ R).length:=xm (by omega);rw[hN.out,a5.out];rw[<-H.out]at h1;omega
        obtain⟨g6,c6,hA6,-,-,-⟩:=dL ge (by omega);injection hA6 with z1 z2 z3;subst z1;clear z2 z3;obtain⟨q,hq⟩:=iG (P0+k);rw[<-hq]at z T e7|-;have J:∀j v,(vg 1 ((sr 2 (bZ R) p+1+2*k:Nat):Int) ⟨X,Y,W,1280⟩ 4278190335 eQ 0)[j]? =some v->wr.cell? (g6,q*14+j)=some v:=fun j v hv=>by
         have:=ge.cells (g:=g6) rfl (q*14+j) v (z j v hv);rwa[NB]at this
        have i0:wr.cell? (g6,q*14)=zJ:=J 0 _ rfl;have i2:wr.cell? (g6,q*14+2)=X:=J 2 _ rfl;have i3:wr.cell? (g6,q*14+3)=Y:=J 3 _ rfl;have i4:wr.cell? (g6,q*14+4)=W:=J 4 _ rfl;have i5:wr.cell? (g6,q*14+5)=z9:=J 5 _ rfl;have heq:=Dd X Y W 1280 ⟨by omega,by omega⟩ ⟨by omega,by omega⟩ ⟨by omega,by omega⟩ ⟨by omega,by omega⟩;have am:wr.cell? (b,l+p)=some (.slice Ar r.length cr):=(u.cell (p:=(b,l+p)) hb).trans d;have d7:=lJ k C.length (by omega);have d8:=lJ q (2*N:Nat) (by omega);replace J:=trivial;replace z:=trivial;replace hW:=aU hW;replace hX:=aU hX;replace io:=aU io;replace hq:=aU hq;replace ii:=trivial;replace M:=trivial;replace L:=trivial;replace In:=trivial;go_wp2_with fail
        go_roundw
        case rel=>exact⟨k+1,by omega,by omega,dY (Value.int _) (by push_cast;omega),rfl,by go_num,trivial⟩
        case measure=>simp[intOf];omega
       .have G:k=B.length:=by have:=t.out;omega
        have Z:add Y (iZ B)=fU (bZ R) (p+1):=by rw[hY.out];exact AJ a.out q1
        have f:P0+k=fg (bZ R) (p+1):=by rw[jX a.out,<-H.out,G]
        have e8:0<B.length->IntKind.i64.wrap (Y+1280)=fU (bZ R) (p+1):=fun h=>by
         have hne:B≠[]:=fun h0=>by rw[h0]at h;exact absurd h (by simp)
         rw[<-Z,IntWalk.i64_in _ (by omega)];unfold iZ add sat;rw[aI hne];omega
        have e9:B.length=0->Y=fU (bZ R) (p+1):=fun h=>by
         rw[<-Z];unfold iZ add sat;rw[aS (lX.1 h)];omega
        replace Z:=aU Z;have am:wr.cell? (b,l+p)=some (.slice Ar r.length cr):=(u.cell (p:=(b,l+p)) hb).trans d;have O:=t.out;by_cases hkr:k<r.length
        .have d3:=lJ k r.length (by omega);have d4:decide ((k:Int)<6)=false:=aA (by omega);have d5:decide ((0:Int)<(r.length:Int))=true:=bf (by omega);replace e8:=e8 (by omega);replace e9:=trivial;replace G:=trivial;replace O:=trivial;replace f:=aU f;go_wp2_with fail
         go_roundw
         case rel=>exact⟨p+1,by omega,by omega,dY (fun x:Nat=>Value.int .i64 (x:Int)) f.out,rfl,by go_num,trivial⟩
         case measure=>simp[intOf];omega
        .have d3:=Di k r.length (by omega);by_cases hr0:0<r.length
         .have d5:decide ((0:Int)<(r.length:Int))=true:=bf (by omega);replace e8:=e8 (by omega);replace e9:=trivial;replace G:=trivial;replace O:=trivial;replace f:=aU f;go_wp2_with fail
          go_roundw
          case rel=>exact⟨p+1,by omega,by omega,dY (fun x:Nat=>Value.int .i64 (x:Int)) f.out,rfl,by go_num,trivial⟩
          case measure=>simp[intOf];omega
         .have d5:decide ((0:Int)<(r.length:Int))=false:=aA (by omega);replace e9:=e9 (by omega);replace e8:=trivial;replace G:=trivial;replace O:=trivial;replace f:=aU f;go_wp2_with fail
          go_roundw
          case rel=>exact⟨p+1,by omega,by omega,dY (fun x:Nat=>Value.int .i64 (x:Int)) f.out,congrArg (Value.int .i64) e9,by go_num,trivial⟩
          case measure=>simp[intOf];omega
     .by_cases hpR:p<R.length
      .have d1:=lJ p R.length (by omega);have d2:decide ((p:Int)<6)=false:=aA (by omega);go_wp2_with (go_at_call 11;go_loud (refine(pp rfl _ Do).mono ?_;rintro e w3 ⟨rfl,ip⟩))
       go_ret
       exact⟨rfl,u.trans (ip.mono u.size)⟩
      .have d1:=Di p R.length (by omega);go_wp2_with (go_at_call 11;go_loud (refine(pp rfl _ Do).mono ?_;rintro e w3 ⟨rfl,ip⟩))
       go_ret
       exact⟨rfl,u.trans (ip.mono u.size)⟩
