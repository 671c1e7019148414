/- part of topCells.proved -/
import Derived.Test.YtkkiefcapbddkaaGreatDoorCc
set_option linter.all false
set_option maxRecDepth 1000000
set_option maxHeartbeats 0
noncomputable section
namespace Go.Proofs.YtkkiefcapbddkaaGreatDoor
open Go.RowKit Mem ep Num
namespace ep
structure Deep(L:List Nd)(D:List Int):Prop where
 len:D.length=L.length
 root:D.getD 0 0=1
 kid:∀(n:Nat) x,L[n]? =some x->0<n->D.getD n 0=D.getD x.par.toNat 0+1
 le:∀n,n<L.length->1<=D.getD n 0/\D.getD n 0<=200
end ep
def rP(L:List Nd)(G D:List Int)(A:Option Addr)(c:Nat)(w:World)(R:uo L G)(hD:Deep L D)(hA:dU w w A 9 Nd.cells L):
 Calls tp 23 #[.agg #[.slice A L.length c]] w fun e w'=>e=zQ/\Below w w w':=by
 have S:=R.pos;have ut:=R.len;obtain⟨H,a,x0,rfl,wn,eq,T⟩:=jT hA S;have q:aE (w.alloc (.cells #[(H,a,L.length,c)] 48)) w 48 #[(H,a,L.length,c)]:=aE.new _ _ _;have o:Below w w (w.alloc (.cells #[(H,a,L.length,c)] 48)):=(Below.refl _ _).alloc (ae _) _;have d1:((L.length:Int)==0)=false:=by rw[eZ];omega
 have d2:decide ((4096:Int)<(L.length:Int))=false:=aA (by omega);go_enter Tryz.func23,Tryz.ntmps23
 go_upto_region 1 with fail
 have hw:w.heap.size<(w.alloc (.cells #[(H,a,L.length,c)] 48)).heap.size:=q.lt;refine bM (fun Z=>aE Z w 48 #[(H,a,L.length,c)]/\Below w w Z) ⟨q,o⟩ ?_;clear q o hw;rintro w1 ⟨q,o⟩;have c0:=q.cell 0;have U:=(hA.below o).more o.size;go_upto_region 7 with(go_at_call 45;refine(KD L G _ c w1 R U).mono ?_;rintro e V ⟨rfl,I⟩)
 have m:=q.below I q.lt;have v:=o.trans (I.mono o.size);have ge:=Co L.length (by omega) V;have c2:=m.cell 0;have wl:=m.lt;go_upto_region 8 with fail
 have Q:aE (V.alloc (.cells (ints (List.replicate L.length 0)) 3)) V 3 (ints (List.replicate L.length 0)):=aE.new _ _ _;replace m:=m.alloc (.cells (ints (List.replicate L.length 0)) 3);replace v:=v.alloc (by omega) (.cells (ints (List.replicate L.length 0)) 3);clear q o I U c0 c2 ge eq T;generalize J:w.heap.size=B at*;replace J:=aU J;generalize ww:V.heap.size=f at*;generalize V.alloc (.cells (ints (List.replicate L.length 0)) 3)=w3 at*;have c3:=m.cell 0;go_wp2_with fail
 go_loopw [27] (fun s wr=>∃(k:Nat) (K:List Int),k<=L.length/\s=k/\Hid (K.length=L.length)/\Hid (∀j,j<k->K.getD j 0=D.getD j 0)/\aE wr f 3 (ints K)/\aE wr B 48 #[(H,a,L.length,c)]/\Below B w wr) (fun i _=>L.length-(intOf i).toNat)
 case atStart=>exact⟨0,_,Nat.zero_le _,rfl,aU (by simp),aU (fun j hj=>by omega),Q,m,v⟩
 case round=>
  clear Q m v c3;obtain⟨k,K,hk,rfl,y,W,Q,q,o⟩:=hrel;have Do:=q.lt;have g7:=Q.lt;by_cases M:k<L.length
  .have e1:=lJ k L.length (by omega);obtain⟨b,H1,x,g8,In,HX,X⟩:=jT (hA.below o) M;cases g8;go_upto_region 10 with fail
   go_wp2_with (refine aX 121 rfl ?_)
   refine⟨bY rfl 121 _ rfl H (a+k*9) rfl x.arr _ X Tryz.underlying121 rfl (kw _) ?_⟩;simp only[Act.put,zA,zB,zC];go_wp2_with (refine aX 121 rfl ?_)
   refine⟨dK x.arr rfl rfl rfl rfl (aE.new _ _ _) rfl (kw _) (qJ _) ?_⟩;intro t hX hC;simp only[Act.put,zA,zB,zC];have z:=(o.alloc (by omega) _).trans (hC.below (by omega));have C:aE t B 48 #[(H,a,L.length,c)]:=(q.alloc _).dA hC (by omega);have p:=(Q.alloc _).dA hC (by omega);have UV:f<wr.heap.size:=g7;generalize Y:wr.heap.size=gx at*;clear Y hC Q q o X;have u:k<K.length:=by rw[y.out];exact M
   obtain⟨y0,am,-⟩:=p.nY u;have a5:=p.free k;have e9:IntKind.i64.wrap ((k:Int)+1)=((k+1:Nat):Int):=by rw[bE _ (by omega)];omega
   have ii:=hD.le k M;have r:B<=f:=by omega
   by_cases N:k=0
   .have e0:decide ((0:Int)<(k:Int))=false:=aA (by omega);have io:decide (0<k)=false:=aA (by omega);have ip:¬0<k:=by omega
    replace N:=aU N;go_upto_region 12 with fail
    have h:=p.jK k 1;have l:=fp.setCell t (f,k) zJ;have E:=z.trans (l.below (show B<=f from r));have F:=C.dA l (show B≠f by omega);have cy:(t.setCell (f,k) zJ).cell? (f,k)=zJ:=by rw[h.int (by simpa using u)];simp[ah,u]
    clear p l z C am a5;generalize t.setCell (f,k) zJ=w6 at*;go_wp2_with fail
    go_roundw
    case rel=>
     refine⟨k+1,_,by omega,rfl,aU (by simpa using y.out),aU fun j hj=>?_,h,F,E⟩;have:j=k:=by omega
     subst this;rw[N.out]at u|-;rw[hD.root];simp[ah,u]
    case measure=>simp[intOf];omega
   .have e0:decide ((0:Int)<(k:Int))=true:=bf (by omega);have io:decide (0<k)=true:=bf (by omega);have ip:0<k:=by omega
    obtain⟨n,O⟩:∃n:Nat,x.par=(n:Int):=⟨x.par.toNat,by have:=(R.par k x HX.out (by omega)).1;omega⟩;have i8:n<k:=by have:=(R.par k x HX.out (by omega)).2;omega
    have g:=hD.kid k x HX.out (by omega);rw[O,Int.toNat_natCast]at g;have pl:n<K.length:=by rw[y.out];omega
    have pL:n<L.length:=by omega
    have jp:Hid (K.getD n 0=D.getD n 0):=aU (W.out n i8);have lw:t.cell? (gx,4)=n:=by have:=hX.cell 4;rw[this];show some (Value.int .i64 x.par)=_;rw[O]
    have mp:n≠k:=by omega
    go_upto_region 13 with fail
    have h:=p.jK k 1;have l:=fp.setCell t (f,k) zJ;have E:=z.trans (l.below (show B<=f from r));have F:=C.dA l (show B≠f by omega);have n6:=hX.dA l (show gx≠f by omega);have cp:(t.setCell (f,k) zJ).cell? (f,n)=(D.getD n 0):=by
     rw[h.int (by simpa using pl),<-jp.out];simp[ah,jY,Ne.symm mp]
    have ck:(t.setCell (f,k) zJ).cell? (f,k)=zJ:=by rw[h.int (by simpa using u)];simp[ah,u]
    have fk:=h.free k;have pm:(t.setCell (f,k) zJ).cell? (gx,4)=n:=by have:=n6.cell 4;rw[this];show some (Value.int .i64 x.par)=_;rw[O]
    clear p l z C am a5 lw hX;generalize t.setCell (f,k) zJ=w6 at*;obtain⟨d,hd⟩:∃d,D.getD n 0=d:=⟨_,rfl⟩;rw[hd]at cp g;replace g:=aU g;have WF:1<=d+1/\d+1<=200:=by rw[<-g.out];exact ii
    have e3:IntKind.i64.wrap (d+1)=d+1:=IntWalk.i64_in _ (by omega);have e4:decide ((256:Int)<d+1)=false:=aA (by omega);go_upto_region 14 with fail
    have a9:=h.jK k (d+1);have P:=fp.setCell w6 (f,k) (.int .i64 (d+1));have qr:=E.trans (P.below (show B<=f from r));have rg:=F.dA P (show B≠f by omega);have cy:(w6.setCell (f,k) (.int .i64 (d+1))).cell? (f,k)=some (.int .i64 (d+1)):=by rw[a9.int (by simpa using u)];simp[ah,u]
    clear h P E F cp ck fk pm;generalize w6.setCell (f,k) (.int .i64 (d+1))=w7 at*;go_wp2_with fail
    go_roundw
    case rel=>
     refine⟨k+1,_,by omega,rfl,aU (by simpa using y.out),aU fun j hj=>?_,a9,rg,qr⟩;by_cases em:j=k
     .subst em;rw[g.out];simp[ah,u]
     .rw[<-W.out j (by omega)];simp[ah,jY,Ne.symm em]
    case measure=>simp[intOf];omega
  .have un:k=L.length:=by omega
   subst un;go_wp2_with fail
   go_ret
   exact⟨rfl,by rw[J.out];exact o⟩
