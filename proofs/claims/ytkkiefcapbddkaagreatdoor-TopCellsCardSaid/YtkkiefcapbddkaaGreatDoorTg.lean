/- part of topCells.proved -/
import Derived.Test.YtkkiefcapbddkaaGreatDoorTa
set_option linter.all false
set_option maxRecDepth 1000000
set_option maxHeartbeats 0
noncomputable section
namespace Go.Abs
open Go.RowKit Go.Proofs YtkkiefcapbddkaaGreatDoor Mem ep Ord
variable{n:Nat}
section
def Ws{w:World}{S B z:Nat}{e:TypeId}{v:Value}{i:List Value}(h:w.ownsRow S e z v n i)(j:B<=S):w.ownsRow B e z v n i:=by
 refine⟨h.1,?_⟩;rcases h.2 with d|⟨g,c,f,k,d,l⟩
 .exact .inl d
 .exact .inr ⟨g,c,f,k,Nat.le_trans j d,l⟩
structure TA(w:World)(b a c gc gt B:Nat)(R:List Int)(p:Nat)(v:Value)(D:List Tk)(x:Tk):Prop where
 cur:iB w b 174 a 0 R c p
 gb:aE w gc 109 #[pt b,v]
 tb:aE w gt 97 x.arr
 own:w.ownsRow B 97 5 v D.length (D.flatMap Tk.cells)
 sz:B<=w.heap.size
 hb:b<B
 ha:a<B
 hg:gc<B
 ht:gt<B
 n1:b≠gc
 n2:b≠gt
 n3:gc≠gt
 n4:a≠gc
 n5:a≠gt
section
variable{w w':World}{b a c gc gt B p:Nat}{R:List Int}{v:Value}{D:List Tk}{x:Tk}
def TA.under(h:TA w b a c gc gt B R p v D x)(j:Below w w w'):TA w' b a c gc gt B R p v D x:=
 ⟨h.cur.below j,h.gb.below j h.gb.lt,h.tb.below j h.tb.lt,ca h.own j,Nat.le_trans h.sz j.size,h.hb,h.ha,h.hg,h.ht,h.n1,h.n2,h.n3,h.n4,h.n5⟩
def TA.drawn(h:TA w b a c gc gt B R p v D x)(j:eL w w'):TA w' b a c gc gt B R p v D x:=h.under (j.below _)
def TA.move{C:Nat}(h:TA w b a c gc gt B R p v D x)(j:fX w w' b 174 a 0 R c C):TA w' b a c gc gt B R C v D x:=
 ⟨j.cur,iQ h.gb j.put (Ne.symm h.n1),iQ h.tb j.put (Ne.symm h.n2),aZ h.own (fun g E A=>j.put.iD g A (fun e=>by have:=(h.own.lt g E).1;have:=h.hb;omega)),ba h.sz j.put.size,h.hb,h.ha,h.hg,h.ht,h.n1,h.n2,h.n3,h.n4,h.n5⟩
def iB.within{t:TypeId}{o:Nat}(h:iB w b t a o R c p)(j:Below B w w')(A:b<B)(C:a<B):iB w' b t a o R c p:=
 ⟨h.dJ.below j A,h.row.keep (j.block a C),h.ne,Nat.lt_of_lt_of_le h.lt j.size⟩
def iB.dA{t:TypeId}{o g:Nat}(h:iB w b t a o R c p)(j:fp g w w')(A:b≠g)(C:a≠g):iB w' b t a o R c p:=
 ⟨h.dJ.dA j A,h.row.keep (j.other a C),h.ne,by rw[j.size];exact h.lt⟩
def TA.grown{u:Value}{E:List Value}(h:TA w b a c gc gt B R p v D x)(A:w.ownsRow B 21 1 u n E)(C:w.grownBy w' u.ownBlock):TA w' b a c gc gt B R p v D x:=
 have j:=eo A C h.sz
 ⟨h.cur.within j h.hb h.ha,h.gb.below j h.hg,h.tb.below j h.ht,OJ h.own A (by decide) C,Nat.le_trans h.sz j.size,h.hb,h.ha,h.hg,h.ht,h.n1,h.n2,h.n3,h.n4,h.n5⟩
def TA.token{y:Tk}(h:TA w b a c gc gt B R p v D x)(A:aE w' gt 97 y.arr)(j:fp gt w w'):TA w' b a c gc gt B R p v D y:=
 ⟨h.cur.dA j h.n2 h.n5,h.gb.dA j h.n3,A,aZ h.own (fun g C _=>j.other g (by have:=(h.own.lt g C).1;have:=h.ht;omega)),by rw[j.size];exact h.sz,h.hb,h.ha,h.hg,h.ht,h.n1,h.n2,h.n3,h.n4,h.n5⟩
def mi{S:Nat}{d:World}(h:pC w d b)(e:S<=b)(f:b<w.heap.size):Below S w d:=⟨h.os,h.tape,h.output,h.size,fun k g=>h.iD k (by omega) (by omega)⟩
end
def SX:(Tryz.prog.info? 97).map (fun i=>(i.zero,i.size,i.bytes))=some (some (.agg #[zQ,eQ,eQ,zn,false]),5,72):=by kernel_rfl
def o8(x:Tk):∀u∈x.cells,u.oneCell'=true:=by
 intro u d;simp only[Tk.cells,Tk.arr,aw,bB,eA]at d;rcases d with rfl|rfl|rfl|rfl|rfl<;>rfl
def Wt{y:Tk}(h:xg y):∃c Y,kB y=60::c::Y/\(c=47\/(97<=c/\c<=122)):=by
 obtain⟨g,-,-,d⟩:=h;rcases d with d|d
 .have e:=g.1;rw[<-x7]at e;cases f:rX y.name with
  |nil=>rw[f]at e;simp at e
  |cons c l=>
   refine⟨c,l++[62],?_,.inr (rY g c (by rw[f];simp))⟩;unfold kB;rw[d,f];rfl
 .refine⟨47,rX y.name++[62],?_,.inl rfl⟩;unfold kB;rw[d];rfl
def Wu{R d X:List Int}{p:Nat}(h:R.drop p=d++X):(∀i,i<d.length->R[p+i]? =d[i]?)/\(∀j,R[p+d.length+j]? =X[j]?)/\(R.drop p).take d.length=d/\R.drop (p+d.length)=X:=by
 refine⟨fun i e=>?_,fun j=>?_,?_,?_⟩
 .rw[<-bd,h,List.getElem?_append_left e]
 .rw[cZ,<-bd,h,List.getElem?_append_right (by omega)]
  congr 1
  omega
 .rw[h,List.take_left]
 .rw[<-ir,h,List.drop_left]
structure Fr where
 u1:Value
 u5:Value
 u6:Value
 u7:Value
 u8:Value
 u9:Value
 u10:Value
 u11:Value
 u12:Value
 u13:Value
 u14:Value
 u15:Value
 u16:Value
 u17:Value
 u18:Value
 u19:Value
 u20:Value
 u21:Value
 u22:Value
 u23:Value
 u24:Value
 u25:Value
 u26:Value
 u27:Value
 u28:Value
 u29:Value
 u30:Value
 u31:Value
 u32:Value
 u33:Value
 u34:Value
 u35:Value
 u36:Value
 u37:Value
 u38:Value
 u39:Value
 u40:Value
 u41:Value
 u42:Value
 u43:Value
 u44:Value
 u45:Value
 u46:Value
 u47:Value
 u48:Value
 u49:Value
 u50:Value
 u51:Value
 u52:Value
 u53:Value
 u54:Value
 u55:Value
 u56:Value
 u57:Value
 u58:Value
 u59:Value
 u60:Value
 u61:Value
 u62:Value
 u63:Value
 u64:Value
 u65:Value
 u66:Value
 u67:Value
 u68:Value
 u69:Value
 u70:Value
 u71:Value
 u72:Value
 u73:Value
 u74:Value
 u75:Value
 u76:Value
 u77:Value
 u78:Value
 u79:Value
 u80:Value
 u81:Value
 u82:Value
 u83:Value
 u84:Value
 u85:Value
 u86:Value
 u87:Value
 u88:Value
 u89:Value
 u90:Value
 u91:Value
 u92:Value
 u93:Value
 u94:Value
 u95:Value
 u96:Value
 u97:Value
 u98:Value
 u99:Value
 abK:Value
 abL:Value
 abM:Value
 abN:Value
 abO:Value
 abP:Value
 abQ:Value
 abR:Value
 abS:Value
 abT:Value
 abU:Value
 abV:Value
 abW:Value
 abX:Value
 abY:Value
 abZ:Value
 ab0:Value
 ab1:Value
 ab2:Value
 ab3:Value
 ab4:Value
 ab5:Value
 ab6:Value
 ab7:Value
 ab8:Value
 ab9:Value
 aca:Value
 acb:Value
 acd:Value
 ace:Value
 acf:Value
 acg:Value
 ach:Value
 aci:Value
 acj:Value
 ack:Value
 acm:Value
 acn:Value
 aco:Value
 acp:Value
 acq:Value
 acr:Value
 acs:Value
 acu:Value
 acv:Value
 acw:Value
 acx:Value
 acy:Value
 acz:Value
 acA:Value
 acB:Value
 acC:Value
 acD:Value
 acE:Value
 acF:Value
def Zd(w:World)(d:Value)(b a c gc gt B:Nat)(R:List Int)(L:List Tk)(n:Nat)(e:Act)(w':World):Prop:=
 ∃(u:Fr) (D M:List Tk) (p:Nat) (v:Value) (x:Tk),e={tmps:=#[d,u.u1,.slice none 0 0,.pointer (some ⟨gc,0,none⟩),.pointer (some ⟨gt,0,none⟩),u.u5,u.u6,u.u7,u.u8,u.u9,u.u10,u.u11,u.u12,u.u13,u.u14,u.u15,u.u16,u.u17,u.u18,u.u19,u.u20,u.u21,u.u22,u.u23,u.u24,u.u25,u.u26,u.u27,u.u28,u.u29,u.u30,u.u31,u.u32,u.u33,u.u34,u.u35,u.u36,u.u37,u.u38,u.u39,u.u40,u.u41,u.u42,u.u43,u.u44,u.u45,u.u46,u.u47,u.u48,u.u49,u.u50,u.u51,u.u52,u.u53,u.u54,u.u55,u.u56,u.u57,u.u58,u.u59,u.u60,u.u61,u.u62,u.u63,u.u64,u.u65,u.u66,u.u67,u.u68,u.u69,u.u70,u.u71,u.u72,u.u73,u.u74,u.u75,u.u76,u.u77,u.u78,u.u79,u.u80,u.u81,u.u82,u.u83,u.u84,u.u85,u.u86,u.u87,u.u88,u.u89,u.u90,u.u91,u.u92,u.u93,u.u94,u.u95,u.u96,u.u97,u.u98,u.u99,u.abK,u.abL,u.abM,u.abN,u.abO,u.abP,u.abQ,u.abR,u.abS,u.abT,u.abU,u.abV,u.abW,u.abX,u.abY,u.abZ,u.ab0,u.ab1,u.ab2,u.ab3,u.ab4,u.ab5,u.ab6,u.ab7,u.ab8,u.ab9,u.aca,u.acb,u.acd,u.ace,u.acf,u.acg,u.ach,u.aci,u.acj,u.ack,u.acm,u.acn,u.aco,u.acp,u.acq,u.acr,u.acs,u.acu,u.acv,u.acw,u.acx,u.acy,u.acz,u.acA,u.acB,u.acC,u.acD,u.acE,u.acF],defers:=[]}/\L=D++M/\n=M.length/\R.drop p=M.flatMap kB/\p<=R.length/\TA w' b a c gc gt B R p v D x/\Below w.heap.size w w'
def Wv(w:World)(d:Value)(R:List Int)(L:List Tk)(n:Nat)(e:Act)(w':World):Prop:=
 ∃(b a c gc gt B:Nat),w.heap.size<=b/\w.heap.size<=gc/\w.heap.size<=gt/\w.heap.size<=B/\Zd w d b a c gc gt B R L n e w'
def ya{w w':World}{hv:Value}{b a c gc gt B:Nat}{R:List Int}{L:List Tk}{y1 y5 y6 y7 y8 y9 qr rg un ut wl wn ww Do H1 In UV WF WP y23 y24 y25 y26 y27 y28 y29 y30 y31 y32 y33 y34 y35 y36 y37 y38 y39 y40 y41 y42 y43 y44 y45 y46 y47 y48 y49 y50 y51 y52 y53 y54 y55 y56 y57 y58 y59 y60 y61 y62 y63 y64 y65 y66 y67 y68 y69 y70 y71 y72 y73 y74 y75 y76 y77 y78 y79 y80 y81 y82 y83 y84 y85 y86 y87 y88 y89 y90 y91 y92 y93 y94 y95 y96 y97 y98 y99 d e f g i j k l m o q r s t u y z A C E F G H I J K N O P Q S T U V W X Y Z am a5 a9 em eq ge g7 g8 ii io ip i8 jp lw mp n6 pm:Value}(hk1:w.heap.size<=b)(hk2:w.heap.size<=gc)(hk3:w.heap.size<=gt)(hk4:w.heap.size<=B)
 (h:∃(D M:List Tk) (p:Nat) (v:Value) (x:Tk),L=D++M/\n=M.length/\R.drop p=M.flatMap kB/\p<=R.length/\TA w' b a c gc gt B R p v D x/\Below w.heap.size w w'):Wv w hv R L n {tmps:=#[hv,y1,.slice none 0 0,.pointer (some ⟨gc,0,none⟩),.pointer (some ⟨gt,0,none⟩),y5,y6,y7,y8,y9,qr,rg,un,ut,wl,wn,ww,Do,H1,In,UV,WF,WP,y23,y24,y25,y26,y27,y28,y29,y30,y31,y32,y33,y34,y35,y36,y37,y38,y39,y40,y41,y42,y43,y44,y45,y46,y47,y48,y49,y50,y51,y52,y53,y54,y55,y56,y57,y58,y59,y60,y61,y62,y63,y64,y65,y66,y67,y68,y69,y70,y71,y72,y73,y74,y75,y76,y77,y78,y79,y80,y81,y82,y83,y84,y85,y86,y87,y88,y89,y90,y91,y92,y93,y94,y95,y96,y97,y98,y99,d,e,f,g,i,j,k,l,m,o,q,r,s,t,u,y,z,A,C,E,F,G,H,I,J,K,N,O,P,Q,S,T,U,V,W,X,Y,Z,am,a5,a9,em,eq,ge,g7,g8,ii,io,ip,i8,jp,lw,mp,n6,pm],defers:=[]} w':=by
 obtain⟨D,M,p,v,x,h1,h2,h3,h4,h5,h6⟩:=h;unfold Wv Zd;exact⟨b,a,c,gc,gt,B,hk1,hk2,hk3,hk4,⟨y1,y5,y6,y7,y8,y9,qr,rg,un,ut,wl,wn,ww,Do,H1,In,UV,WF,WP,y23,y24,y25,y26,y27,y28,y29,y30,y31,y32,y33,y34,y35,y36,y37,y38,y39,y40,y41,y42,y43,y44,y45,y46,y47,y48,y49,y50,y51,y52,y53,y54,y55,y56,y57,y58,y59,y60,y61,y62,y63,y64,y65,y66,y67,y68,y69,y70,y71,y72,y73,y74,y75,y76,y77,y78,y79,y80,y81,y82,y83,y84,y85,y86,y87,y88,y89,y90,y91,y92,y93,y94,y95,y96,y97,y98,y99,d,e,f,g,i,j,k,l,m,o,q,r,s,t,u,y,z,A,C,E,F,G,H,I,J,K,N,O,P,Q,S,T,U,V,W,X,Y,Z,am,a5,a9,em,eq,ge,g7,g8,ii,io,ip,i8,jp,lw,mp,n6,pm⟩,D,M,p,v,x,rfl,h1,h2,h3,h4,h5,h6⟩
def Iw(w:World){g cap:Nat}{R:List Int}(L:List Tk)(hg:kA w g 0 R)(hgl:g<w.heap.size)(hR0:0<R.length)(hl:R.length<=1000000)(hL:Good L)(hLl:L.length<=1000000)(hR:R=L.flatMap kB):
 Calls tp 22 #[(g,R.length,cap)] w fun e w'=>∃A c,e=.returned (.slice A L.length c)/\Below w w w'/\w'.ownsRow w 97 5 (.slice A L.length c) L.length (L.flatMap Tk.cells):=by
 replace hR:=aU hR;replace hL:=aU hL;obtain⟨i9,hi9,hz9,hz8,hz7⟩:=info_parts SX;go_enter Tryz.func22,Tryz.ntmps22
 go_upto_region 1 with fail
 refine BB 3 (Wv w (g,R.length,cap) R L) rfl ?_ ?_;rotate_left
 .intro hp;go_upto_region 2 with(go_at_call 33;go_loud (refine(SM w (g:=g) (cap:=cap) (R:=R) hg hgl hR0 hl).mono ?_;rintro e w1 ⟨b,a,c,rfl,wl,T,hb0,ha0⟩))
  have k3:aE (w1.alloc (.cells #[pt b,zn] 109)) w1 109 #[pt b,zn]:=aE.new _ _ _;have hcx:=wl.below ((Below.refl w1 w1).alloc (ae _) (.cells #[pt b,zn] 109));have a9:=wl.dJ.lt;have hal:=wl.lt;have hs1:=T.size;have hBx:=T.alloc (by omega) (.cells #[pt b,zn] 109);have z2:(w1.alloc (.cells #[pt b,zn] 109)).heap.size=w1.heap.size+1:=by simp
  obtain⟨gc,hgc⟩:=iG w1.heap.size;rw[<-hgc]at k3 z2 a9 hal hs1|-;generalize w1.alloc (.cells #[pt b,zn] 109)=w2 at*;go_upto_region 3 with fail
  rw[<-hgc];have k4:aE (w2.alloc (.cells #[zQ,eQ,eQ,zn,false] 97)) (gc+1) 97 #[zQ,eQ,eQ,zn,false]:=aE.newAt _ _ _ z2.symm;replace k3:=k3.alloc (.cells #[zQ,eQ,eQ,zn,false] 97);have hc3:=hcx.below ((Below.refl w2 w2).alloc (ae _) (.cells #[zQ,eQ,eQ,zn,false] 97));replace hBx:=hBx.alloc (by omega) (.cells #[zQ,eQ,eQ,zn,false] 97);have z3:(w2.alloc (.cells #[zQ,eQ,eQ,zn,false] 97)).heap.size=gc+2:=by simp[z2]
  generalize w2.alloc (.cells #[zQ,eQ,eQ,zn,false] 97)=w3 at*;clear hcx z2 wl T;go_upto_region 5 with fail
  go_step3
  rename_i z;refine z _ _ (hp L.length _ _ ?_);refine ya (b:=b) (a:=a) (c:=c) (gc:=gc) (gt:=gc+1) (B:=gc+2) (by omega) (by omega) (by omega) (by omega) ⟨[],L,0,zn,⟨0,eQ,eQ⟩,rfl,rfl,?_,aM _,⟨hc3,k3,k4,dl _ _ _ _,by omega,by omega,by omega,by omega,by omega,by omega,by omega,by omega,by omega,by omega⟩,hBx⟩;rw[Ue];exact hR.out
 .intro n ac w1 hJ;unfold Wv Zd at hJ;obtain⟨b,a,c,gc,gt,B,em,wn,WF,g7,u,D,M,p,v0,x0,rfl,hD,rfl,hp,hpl,F,T⟩:=hJ;replace hp:=aU hp;replace hD:=aU hD;obtain⟨A0,c0v,hv0,-⟩:=aV F.own;have cg0:=F.gb.cell 0;cases M with
  |nil=>
   have hpe:p=R.length:=by
    have:=dY List.length hp.out;rw[cS]at this;simp at this;omega
   go_wp2_with (go_at_call 34;refine(kY F.cur hl (by omega)).mono ?_;rintro e w2 ⟨rfl,C⟩;have cg1:w2.cell? (gc,1)=some v0:=(F.drawn C).gb.cell 1)
   rw[Wo];subst hv0;go_ret
   have e1:L=D:=by rw[hD.out,List.append_nil]
   subst e1;exact⟨_,_,rfl,T.trans (C.below _),Ws (F.drawn C).own g7⟩
  |cons x M=>
   have n6:=hp.out;rw[bR]at n6;have hgx:=CN (D:=D) (by rw[<-hD.out];exact hL.out);have hDl:D.length+M.length+1=L.length:=by rw[hD.out];simp;omega
   obtain⟨hx,hM⟩:=hgx;replace hM:=aU hM;clear hv0;rcases hx with⟨hs,hus,WP,hk⟩|⟨⟨hs,WP,hk⟩,y,N,hMy,hy⟩
   .have hu1:=hus.1;have hu2:=hus.2;rcases hk with hk|hk
    .have O:R.drop p=60::(rX x.name++62::M.flatMap kB):=by rw[n6];unfold kB;rw[hk];simp
     obtain⟨r0,h1⟩:=E0 O;obtain⟨t1,t2,t3,t4⟩:=SQ h1 (rY hs);have a9:(rX x.name).length=x.name.size:=x7 _;have ut:=hs.1;obtain⟨c0,r1,pm⟩:=t1 0 (by omega);have r1:R[p+1]? =some c0:=r1;have hlt:=(List.getElem?_eq_some_iff.1 t2).1;have e0:((R.length:Int)-(p:Int)==0)=false:=by rw[eZ];omega
     replace t1:=aU t1;replace t3:=aU t3;replace t4:=aU t4;clear n6 O h1;go_upto_region 7 with(go_at_call 34;refine(kY F.cur hl (by omega)).mono ?_;rintro e w2 ⟨rfl,C⟩)
     have s:=F.drawn C;have g8:=T.trans (C.below _);go_upto_region 8 with(go_at_call 35;refine(tE s.cur hl r0 r1 (.inr pm) s.gb).mono ?_;rintro e w3 ⟨rfl,Q⟩)
     have U:=s.under Q;have qr:=g8.trans (Q.mono (by have:=s.sz;omega));go_wp2_with (first|(go_at_call 37;refine(jM U.cur hl r1 U.gb).mono ?_;rintro e w4 ⟨rfl,t⟩)|(go_at_call 36;refine(tw c0 pm.1 pm.2 _).mono ?_;rintro e w5 ⟨rfl,rfl⟩))
     go_step3
     refine .inr ⟨_,rfl,?_⟩;have m:=U.drawn t;have hB4:=qr.trans (t.below _);have cg4:=m.gb.cell 0;go_upto_region 20 with(go_at_call 41;refine(mh m.cur hl r0).mono ?_;rintro e w5 ⟨rfl,rg⟩)
     have f:=m.move rg;have ii:=hB4.trans (mi rg.put em m.cur.dJ.lt);clear F s U m T g8 qr hB4 cg0 cg4 C Q t rg;have V:=Iv 2 f.cur hl f.gb (Ne.symm f.n1) (L:=(rX x.name).length) (by omega) t1.out t2;rw[t3.out,tF hs]at V;go_wp2_with (first|(go_at_call 43;refine V.mono ?_;rintro e w6 ⟨rfl,a5⟩)|refine dm 97 _ _ rfl rfl ?_)
     refine⟨?_⟩;have hxa:x.arr=#[.int .i64 2,.string x.name,.string ⟨#[]⟩,.slice none 0 0,.bool false]:=by unfold Tk.arr;rw[hk,WP]
     have E:=f.move a5;have eq:=ii.trans (mi a5.put em f.cur.dJ.lt);refine dK #[zZ,x.name,eQ,zn,false] rfl rfl rfl rfl E.tb rfl (by kernel_rfl) (by simp[Value.oneCell']) ?_;intro w7 hX7 hC7;rw[<-hxa]at hX7;have G:=E.token hX7 hC7;have ww:=eq.trans (hC7.below WF);simp only[Act.put,zA,zB,zC];clear V hxa;obtain⟨A,cA,rfl,-⟩:=aV G.own;go_upto_region 23 with fail
     have J:=G.under ((Below.refl _ w7).drew);have io:=ww.trans ((Below.refl w w7).drew);have hsB:=J.sz;refine a8 ?_;refine dW (S:=fun Z:World=>Z.cell? (gc,1)=some (.slice A D.length cA)/\Z.rangeAt gt 0 x.cells) 10 [1,1,1,1,1,1,0,0,1,1,0] (by kernel_rfl) (fun _ _ _ _ _ h=>h) (⟨G.gb.drew.cell 1,G.tb.drew.range⟩) (fun hS0=>?_);simp only[osq,fL,aF,ap];iterate 5 (apply cU;rfl;(intro w Do;go_simp;try(with_reducible rfl));simp only[Act.put,zA,zB,zC])
     (refine gT (cQ rfl 97 _ rfl gt 0 rfl x.cells _ (fun w h=>h.2) Tryz.underlying97 rfl (x4 x)) ?_;simp only[Act.put,zA,zB,zC])
     refine cC rfl rfl (fun K z=>?_);refine gK (v:=(w7.drew.heap.size,1,1)) (w':=w7.drew.alloc (.cells x.arr 97)) (by kernel_rfl) ?_;have d:=J.under ((Below.refl _ w7.drew).alloc (ae _) (.cells x.arr 97));have ip:=io.alloc (by omega) (.cells x.arr 97);have W:=df (aE.new w7.drew 97 x.arr) (news:=x.cells) rfl;simp only[Act.put,zA,zB,zC];refine z.out _ _ (⟨d.gb.cell 1,d.tb.range⟩) (fun _=>?_);clear z K;refine cC rfl rfl (fun K z=>?_);refine du (w7.drew.alloc (.cells x.arr 97)) _ _ 75 rfl B 97 i9 (.agg #[zQ,eQ,eQ,zn,false]) 5 72 aag hi9 hz9 hz8 hz7 rfl (by decide) (.slice A D.length cA) D.length _ rfl d.own w7.drew.heap.size 1 1 x.cells rfl rfl W (o8 x) (by unfold maxLen;omega) (by omega) d.sz ?_;intro v' X H i8 _;obtain⟨A',l,rfl,-⟩:=aV H;have q:Below B (w7.drew.alloc (.cells x.arr 97)) X:=eo d.own i8 d.sz;have I:=d.gb.below q d.hg;have am:=d.tb.below q d.ht;have jp:=d.cur.within q d.hb d.ha;simp only[Act.put,zA,zB,zC];refine z.out _ _ (⟨I.cell 1,am.range⟩) (fun _=>?_);clear z K;iterate 2 (apply cU;rfl;(intro w Do;go_simp;try(with_reducible rfl));simp only[Act.put,zA,zB,zC])
     refine lW rfl rfl (fun K z=>?_);have q2:=I.free 1;go_simp
     (try simp only[Act.put,zA,zB,zC])
     refine z.out _ _ ?_;clear z K;refine fA (a7 ?_);have r:fp gc X (X.setCell (gc,1) (.slice A' (D.length+1) l)):=fp.setCell X (gc,1) (.slice A' (D.length+1) l);have lw:=I.put 1 (.slice A' (D.length+1) l);have mp:(D++[x]).length=D.length+1:=by simp
     have H1:TA (X.setCell (gc,1) (.slice A' (D.length+1) l)) b a c gc gt B R (p+1+(rX x.name).length+1) (.slice A' (D.length+1) l) (D++[x]) x:=by
      refine⟨jp.dA r d.n1 d.n4,lw,am.dA r (Ne.symm d.n3),?_,by rw[r.size];exact ba d.sz q.size,d.hb,d.ha,d.hg,d.ht,d.n1,d.n2,d.n3,d.n4,d.n5⟩;rw[mp,List.flatMap_append];have:=aZ (w':=X.setCell (gc,1) (.slice A' (D.length+1) l)) H (fun g hg _=>r.other g (by have:=(H.lt g hg).1;have:=d.hg;omega));simpa using this
     have hBE:=ip.trans ((q.mono g7).trans (r.below wn));generalize (X.setCell (gc,1) (.slice A' (D.length+1) l))=wE at*;have qn:wE.cell? (gt,1)=x.name:=H1.tb.cell 1;clear r lw mp q I am jp d J ip io W H i8;go_wp2_with fail
     go_step3
     refine⟨rfl,M.length,by simp,?_⟩;refine ya em wn WF g7 ⟨D++[x],M,(p+1+(rX x.name).length+1),_,_,?_,rfl,t4.out,?_,H1,hBE⟩
     .rw[hD.out];simp
     .omega
    .have O:R.drop p=60::47::(rX x.name++62::M.flatMap kB):=by rw[n6];unfold kB;rw[hk];simp
     obtain⟨r0,h1⟩:=E0 O;obtain⟨r1,h1⟩:=E0 h1;obtain⟨t1,t2,t3,t4⟩:=SQ h1 (rY hs);have a9:(rX x.name).length=x.name.size:=x7 _;have ut:=hs.1;obtain⟨c0,r2,pm⟩:=t1 0 (by omega);have r2:R[p+2]? =some c0:=r2;have r1:R[p+1]? =some 47:=r1;have hlt:=(List.getElem?_eq_some_iff.1 t2).1;have e0:((R.length:Int)-(p:Int)==0)=false:=by rw[eZ];omega
     replace t1:=aU t1;replace t3:=aU t3;replace t4:=aU t4;clear n6 O h1;go_upto_region 7 with(go_at_call 34;refine(kY F.cur hl (by omega)).mono ?_;rintro e w2 ⟨rfl,C⟩)
     have s:=F.drawn C;have g8:=T.trans (C.below _);go_upto_region 8 with(go_at_call 35;refine(tE s.cur hl r0 r1 (.inl rfl) s.gb).mono ?_;rintro e w3 ⟨rfl,Q⟩)
     have U:=s.under Q;have qr:=g8.trans (Q.mono (by have:=s.sz;omega));go_upto_region 9 with(first|(go_at_call 37;refine(jM U.cur hl r1 U.gb).mono ?_;rintro e w4 ⟨rfl,t⟩)|(go_at_call 36;refine(uM _).mono ?_;rintro e w5 ⟨rfl,rfl⟩))
     have m:=U.drawn t;have hB4:=qr.trans (t.below _);go_wp2_with (first|(have _q:=f;go_at_call 37;go_loud (refine(jM (k:=2) f.cur hl r2 f.gb).mono ?_;rintro e w6 ⟨rfl,hd6⟩))|(go_at_call 37;refine(jM (k:=1) m.cur hl r1 m.gb).mono ?_;rintro e w5 ⟨rfl,hd5⟩;have f:=m.drawn hd5)|(go_at_call 36;refine(tw c0 pm.1 pm.2 _).mono ?_;rintro e w7 ⟨rfl,rfl⟩))
     go_step3
     refine .inr ⟨_,rfl,?_⟩;have E:=f.drawn hd6;have eq:=(hB4.trans (hd5.below _)).trans (hd6.below _);have cg4:w6.cell? gc=pt b:=E.gb.cell 0;go_upto_region 27 with(go_at_call 41;refine(mh E.cur hl r0).mono ?_;rintro e w8 ⟨rfl,hm8⟩)
     have un:=E.move hm8;have hB8:=eq.trans (mi hm8.put em E.cur.dJ.lt);have cg8:w8.cell? gc=pt b:=un.gb.cell 0;clear F s U m f E T g8 qr hB4 eq cg0 cg4 C Q t hd5 hd6 hm8;go_upto_region 28 with(go_at_call 41;refine(mh un.cur hl r1).mono ?_;rintro e w5 ⟨rfl,rg⟩)
     have f:=un.move rg;have ii:=hB8.trans (mi rg.put em un.cur.dJ.lt);clear un hB8 cg8 rg;have V:=Iv 3 f.cur hl f.gb (Ne.symm f.n1) (L:=(rX x.name).length) (by omega) t1.out t2;rw[t3.out,tF hs]at V;go_wp2_with (first|(go_at_call 43;refine V.mono ?_;rintro e w6 ⟨rfl,a5⟩)|refine dm 97 _ _ rfl rfl ?_)
     refine⟨?_⟩;have hxa:x.arr=#[.int .i64 3,.string x.name,.string ⟨#[]⟩,.slice none 0 0,.bool false]:=by unfold Tk.arr;rw[hk,WP]
     have E:=f.move a5;have eq:=ii.trans (mi a5.put em f.cur.dJ.lt);refine dK #[zY,x.name,eQ,zn,false] rfl rfl rfl rfl E.tb rfl (by kernel_rfl) (by simp[Value.oneCell']) ?_;intro w7 hX7 hC7;rw[<-hxa]at hX7;have G:=E.token hX7 hC7;have ww:=eq.trans (hC7.below WF);simp only[Act.put,zA,zB,zC];clear V hxa;obtain⟨A,cA,rfl,-⟩:=aV G.own;go_upto_region 31 with fail
     have J:TA w7.drew b a c gc gt B R (p+1+1+(rX x.name).length+1) (.slice A D.length cA) D x:=G.under ((Below.refl _ w7).drew);have io:Below w w w7.drew:=ww.trans ((Below.refl w w7).drew);have hsB:=J.sz;refine a8 ?_;refine dW (S:=fun Z:World=>Z.cell? (gc,1)=some (.slice A D.length cA)/\Z.rangeAt gt 0 x.cells) 10 [1,1,1,1,1,1,0,0,1,1,0] (by kernel_rfl) (fun _ _ _ _ _ h=>h) (⟨G.gb.drew.cell 1,G.tb.drew.range⟩) (fun hS0=>?_);simp only[osq,fL,aF,ap];iterate 5 (apply cU;rfl;(intro w Do;go_simp;try(with_reducible rfl));simp only[Act.put,zA,zB,zC])
     (refine gT (cQ rfl 97 _ rfl gt 0 rfl x.cells _ (fun w h=>h.2) Tryz.underlying97 rfl (x4 x)) ?_;simp only[Act.put,zA,zB,zC])
     refine cC rfl rfl (fun K z=>?_);refine gK (v:=(w7.drew.heap.size,1,1)) (w':=w7.drew.alloc (.cells x.arr 97)) (by kernel_rfl) ?_;have d:=J.under ((Below.refl _ w7.drew).alloc (ae _) (.cells x.arr 97));have ip:=io.alloc (by omega) (.cells x.arr 97);have W:=df (aE.new w7.drew 97 x.arr) (news:=x.cells) rfl;simp only[Act.put,zA,zB,zC];refine z.out _ _ (⟨d.gb.cell 1,d.tb.range⟩) (fun _=>?_);clear z K;refine cC rfl rfl (fun K z=>?_);refine du (w7.drew.alloc (.cells x.arr 97)) _ _ 75 rfl B 97 i9 (.agg #[zQ,eQ,eQ,zn,false]) 5 72 aag hi9 hz9 hz8 hz7 rfl (by decide) (.slice A D.length cA) D.length _ rfl d.own w7.drew.heap.size 1 1 x.cells rfl rfl W (o8 x) (by unfold maxLen;omega) (by omega) d.sz ?_;intro v' X H i8 _;obtain⟨A',l,rfl,-⟩:=aV H;have q:Below B (w7.drew.alloc (.cells x.arr 97)) X:=eo d.own i8 d.sz;have I:=d.gb.below q d.hg;have am:=d.tb.below q d.ht;have jp:=d.cur.within q d.hb d.ha;simp only[Act.put,zA,zB,zC];refine z.out _ _ (⟨I.cell 1,am.range⟩) (fun _=>?_);clear z K;iterate 2 (apply cU;rfl;(intro w Do;go_simp;try(with_reducible rfl));simp only[Act.put,zA,zB,zC])
     refine lW rfl rfl (fun K z=>?_);have q2:=I.free 1;go_simp
     (try simp only[Act.put,zA,zB,zC])
     refine z.out _ _ ?_;clear z K;refine fA (a7 ?_);have r:fp gc X (X.setCell (gc,1) (.slice A' (D.length+1) l)):=fp.setCell X (gc,1) (.slice A' (D.length+1) l);have lw:=I.put 1 (.slice A' (D.length+1) l);have mp:(D++[x]).length=D.length+1:=by simp
     have H1:TA (X.setCell (gc,1) (.slice A' (D.length+1) l)) b a c gc gt B R (p+1+1+(rX x.name).length+1) (.slice A' (D.length+1) l) (D++[x]) x:=by
      refine⟨jp.dA r d.n1 d.n4,lw,am.dA r (Ne.symm d.n3),?_,by rw[r.size];exact ba d.sz q.size,d.hb,d.ha,d.hg,d.ht,d.n1,d.n2,d.n3,d.n4,d.n5⟩;rw[mp,List.flatMap_append];have:=aZ (w':=X.setCell (gc,1) (.slice A' (D.length+1) l)) H (fun g hg _=>r.other g (by have:=(H.lt g hg).1;have:=d.hg;omega));simpa using this
     have hBE:=ip.trans ((q.mono g7).trans (r.below wn));generalize (X.setCell (gc,1) (.slice A' (D.length+1) l))=wE at*;clear r lw mp q I am jp d J ip io W H i8;go_wp2_with fail
     go_step3
     refine⟨rfl,M.length,by simp,?_⟩;refine ya em wn WF g7 ⟨D++[x],M,(p+1+1+(rX x.name).length+1),_,_,?_,rfl,t4.out,?_,H1,hBE⟩
     .rw[hD.out];simp
     .omega
   .obtain⟨kd,nm,o⟩:=x;simp only at hk WP hs;subst hk WP;have O:R.drop p=rX o++(kB y++N.flatMap kB):=by rw[n6,hMy,List.flatMap_cons];rfl
    obtain⟨c1,Y,hY,wl⟩:=Wt hy;obtain⟨tA,tB,tC,tD⟩:=Wu O;have a9:(rX o).length=o.size:=x7 _;have ut:=hs.1;have r0:R[p+o.size]? =some 60:=by have:=tB 0;rw[hY,a9]at this;exact this
    have r1:R[p+o.size+1]? =some c1:=by have:=tB 1;rw[hY,a9]at this;exact this
    have tL:Hid (∀i,i<o.size->∃c,(rX o)[i]? =some c/\R[p+i]? =some c/\97<=c/\c<=122):=by
     intro i hi;have hib:i<(rX o).length:=by omega
     exact⟨(rX o)[i],List.getElem?_eq_getElem hib,by rw[tA i hib];exact af hib,rY hs _ (List.getElem_mem hib)⟩
    obtain⟨c0,-,q0,pm⟩:=tL.out 0 ut;have q0:R[p]? =some c0:=q0;have hlt:=(List.getElem?_eq_some_iff.1 r1).1;have e0:((R.length:Int)-(p:Int)==0)=false:=by rw[eZ];omega
    replace tD:Hid (R.drop (p+o.size)=M.flatMap kB):=by rw[hMy,List.flatMap_cons];rw[a9]at tD;exact tD
    have hts:Hid (∀b∈o.data.toList,b.toNat≠38):=fun b hb=>by have:=hs.2 b hb;omega
    have htn:Hid (o.data.toList≠[]):=fun e=>by
     have:o.data.toList.length=o.size:=rfl;rw[e]at this;simp at this;omega
    have hback:Hid (runesBytes (rX o)=o):=tF hs;clear n6 O tA tB tC hY;go_upto_region 7 with(go_at_call 34;refine(kY F.cur hl (by omega)).mono ?_;rintro e w2 ⟨rfl,C⟩)
    have s:=F.drawn C;have g8:=T.trans (C.below _);go_wp2_with (go_at_call 35;refine(CK s.cur hl q0 (by omega) s.gb).mono ?_;rintro e w3 ⟨rfl,Q⟩)
    go_step3
    refine .inr ⟨_,rfl,?_⟩;have U:=s.under Q;have qr:=g8.trans (Q.mono (by have:=s.sz;omega));clear F s T g8 C Q cg0;obtain⟨i21,hi21,hy0,hy1,hy2⟩:=info_parts qS;go_wp2_with fail
    go_loopg [6] o.size (fun g v wr=>∃k:Nat,g=o.size-k/\k<=o.size/\TA wr b a c gc gt B R (p+k) v0 D x0/\Below w w wr/\wr.ownsRow B 21 1 v k (((rX o).take k).map (Value.int .i32)))
    case atStart=>exact⟨0,rfl,Nat.zero_le _,U,qr,dl _ _ _ _⟩
    case round=>
     obtain⟨k,rfl,hkn,In,hBr,hor⟩:=hrel;have cr0:wr.cell? gc=pt b:=In.gb.cell 0;have d0:decide (0<(R.length:Int)-((p+k:Nat):Int))=true:=bf (by omega);by_cases hlk:k<o.size
     .obtain⟨ck,hb1,hb2,Q⟩:=tL.out k hlk;go_upto_region 16 with(first|(go_at_call 34;refine(kY In.cur hl (by omega)).mono ?_;rintro e w4 ⟨rfl,t⟩;have m:=In.drawn t)|(go_at_call 35;refine(CK m.cur hl hb2 (by omega) m.gb).mono ?_;rintro e w5 ⟨rfl,ge⟩))
      have f:=m.under ge;have UV:=ca (ca hor (t.below _)) ge;have ii:=(hBr.trans (t.below _)).trans (ge.mono (by have:=m.sz;omega));have cr5:w5.cell? gc=pt b:=f.gb.cell 0;go_upto_region 17 with(go_at_call 41;refine(mh f.cur hl hb2).mono ?_;rintro e w6 ⟨rfl,a5⟩)
      have E:=f.move a5;have eq:=ii.trans (mi a5.put em f.cur.dJ.lt);have ho6:=aZ UV (fun g hg hlt'=>a5.put.iD g hlt' (fun e=>by have:=(UV.lt g hg).1;have:=f.hb;omega));obtain⟨A2,q2,rfl,-⟩:=aV ho6;have ho7:=ho6.alloc (.cells #[.int .i32 ck] 21);have G:=E.under ((Below.refl _ w6).alloc (ae _) (.cells #[.int .i32 ck] 21));have ww:=eq.alloc (by have:=E.sz;omega) (.cells #[.int .i32 ck] 21);have W:=df (aE.new w6 21 #[.int .i32 ck]) (news:=[.int .i32 ck]) rfl;go_wp2_with (refine cR _ _ _ _ rfl ?_)
      refine⟨?_⟩;refine(eC _ rfl (.tmp 69) (.tmp 71) 54 rfl B 21 i21 (.int .i32 0) 1 4 gj hi21 hy0 hy1 hy2 rfl (by decide) (.slice A2 k q2) _ _ rfl ho7 w6 1 1 [.int .i32 ck] rfl rfl W (by simp[Value.oneCell']) (by unfold maxLen;omega) (by omega) G.sz ?_);intro v' w8 ho8 hg8 _;have un:=G.grown ho7 hg8;have hB8:=ww.trans ((eo ho7 hg8 G.sz).mono g7);simp only[Act.put,zA,zB,zC];clear m f E G ii eq ww UV ho6 ho7 a5 ge t W cr5 hg8;go_wp2_with fail
      go_roundg (o.size-(k+1))
      case measure=>omega
      case rel=>
       refine⟨k+1,rfl,hlk,un,hB8,?_⟩;rw[bJ,hb1];simpa using ho8
     .have hkl:k=o.size:=by omega
      subst hkl;go_upto_region 18 with(first|(go_at_call 34;refine(kY In.cur hl (by omega)).mono ?_;rintro e w4 ⟨rfl,t⟩;have m:=In.drawn t)|(go_at_call 35;refine(tE m.cur hl r0 r1 wl m.gb).mono ?_;rintro e w5 ⟨rfl,ge⟩))
      have f:=m.under ge;have UV:=ca (ca hor (t.below _)) ge;have ii:=(hBr.trans (t.below _)).trans (ge.mono (by have:=m.sz;omega));obtain⟨gx,cx,rfl,hgx,hcx,hgxl⟩:=dL UV ut;have hcv:(convert 54 9 (gx,o.size,cx)).run tp w5.drew=.ok o w5.drew:=by
       have:=run_convert_runes (P:=tp) w5.drew 54 9 21 gx o.size cx (rX o) (by omega) gj Bb km (fun j hj=>by
        refine(fS UV).cells (g:=gx) rfl j _ ?_;have hj':j<o.size:=by omega
        rw[ai,bU hj',List.getD_eq_getElem?_getD,af (by omega)];rfl)
       rw[<-a9,List.take_length,hback.out]at this;rw[a9]at this;exact this
      obtain⟨A,cA,rfl,-⟩:=aV f.own;have hl2:o.size<=140737488355328:=by omega
      clear m In hBr hor ge t cr0;refine a8 ?_;refine dW (S:=fun Z:World=>Z.cell? (gc,1)=some (.slice A D.length cA)/\Z.rangeAt gt 0 x0.cells) 13 [1,1,1,1,1,1,0,0,1,0,0,1,1,0] (by kernel_rfl) (fun _ _ _ _ _ h=>h) (⟨f.gb.drew.cell 1,f.tb.drew.range⟩) (fun hS0=>?_);simp only[osq,fL,aF,ap];iterate 6 (apply cU;rfl;(intro w Do;go_simp;try(with_reducible rfl));simp only[Act.put,zA,zB,zC])
      refine cC rfl rfl (fun K z=>?_);go_simp
      (try simp only[Act.put,zA,zB,zC])
      refine z.out _ _ (⟨f.gb.drew.cell 1,f.tb.drew.range⟩) (fun _=>?_);clear z K;refine cC rfl rfl (fun K z=>?_);go_simp
      refine(zh o hts htn hl2 w5.drew).mono ?_;rintro e w9 ⟨rfl,hb9⟩;have J:=(f.under ((Below.refl _ w5).drew)).under hb9;have io:=(ii.trans ((Below.refl w w5).drew)).trans (hb9.mono (by have:=f.sz;show w.heap.size<=w5.heap.size;omega));have hsB:=J.sz;go_wp2_with fail
      (try simp only[Act.put,zA,zB,zC])
      refine z.out _ _ (⟨J.gb.cell 1,J.tb.range⟩) (fun _=>?_);clear z K;(apply cU;rfl;(intro w Do;go_simp;try(with_reducible rfl));simp only[Act.put,zA,zB,zC]);refine cC rfl rfl (fun K z=>?_);refine gK (v:=(w9.heap.size,1,1)) (w':=w9.alloc (.cells (⟨1,eQ,o⟩:Tk).arr 97)) (by kernel_rfl) ?_;have d:=J.under ((Below.refl _ w9).alloc (ae _) (.cells (⟨1,eQ,o⟩:Tk).arr 97));have ip:=io.alloc (by omega) (.cells (⟨1,eQ,o⟩:Tk).arr 97);have W:=df (aE.new w9 97 (⟨1,eQ,o⟩:Tk).arr) (news:=(⟨1,eQ,o⟩:Tk).cells) rfl;simp only[Act.put,zA,zB,zC];refine z.out _ _ (⟨d.gb.cell 1,d.tb.range⟩) (fun _=>?_);clear z K;refine cC rfl rfl (fun K z=>?_);refine du (w9.alloc (.cells (⟨1,eQ,o⟩:Tk).arr 97)) _ _ 75 rfl B 97 i9 (.agg #[zQ,eQ,eQ,zn,false]) 5 72 aag hi9 hz9 hz8 hz7 rfl (by decide) (.slice A D.length cA) D.length _ rfl d.own w9 1 1 (⟨1,eQ,o⟩:Tk).cells rfl rfl W (o8 (⟨1,eQ,o⟩:Tk)) (by unfold maxLen;omega) (by omega) d.sz ?_;intro v' X H i8 _;obtain⟨A',l,rfl,-⟩:=aV H;have q:Below B (w9.alloc (.cells (⟨1,eQ,o⟩:Tk).arr 97)) X:=eo d.own i8 d.sz;have I:=d.gb.below q d.hg;have am:=d.tb.below q d.ht;have jp:=d.cur.within q d.hb d.ha;simp only[Act.put,zA,zB,zC];refine z.out _ _ (⟨I.cell 1,am.range⟩) (fun _=>?_);clear z K;iterate 2 (apply cU;rfl;(intro w Do;go_simp;try(with_reducible rfl));simp only[Act.put,zA,zB,zC])
      refine lW rfl rfl (fun K z=>?_);have q2:=I.free 1;go_simp
      (try simp only[Act.put,zA,zB,zC])
      refine z.out _ _ ?_;clear z K;refine fA (a7 ?_);have r:fp gc X (X.setCell (gc,1) (.slice A' (D.length+1) l)):=fp.setCell X (gc,1) (.slice A' (D.length+1) l);have lw:=I.put 1 (.slice A' (D.length+1) l);have mp:(D++[(⟨1,eQ,o⟩:Tk)]).length=D.length+1:=by simp
      have H1:TA (X.setCell (gc,1) (.slice A' (D.length+1) l)) b a c gc gt B R (p+o.size) (.slice A' (D.length+1) l) (D++[(⟨1,eQ,o⟩:Tk)]) x0:=by
       refine⟨jp.dA r d.n1 d.n4,lw,am.dA r (Ne.symm d.n3),?_,by rw[r.size];exact ba d.sz q.size,d.hb,d.ha,d.hg,d.ht,d.n1,d.n2,d.n3,d.n4,d.n5⟩;rw[mp,List.flatMap_append];have:=aZ (w':=X.setCell (gc,1) (.slice A' (D.length+1) l)) H (fun g hg _=>r.other g (by have:=(H.lt g hg).1;have:=d.hg;omega));simpa using this
      have hBE:=ip.trans ((q.mono g7).trans (r.below wn));generalize (X.setCell (gc,1) (.slice A' (D.length+1) l))=wE at*;clear r lw mp q I am jp d J ip io W H i8;go_wp2_with fail
      go_step3
      refine⟨rfl,M.length,by simp,?_⟩;refine ya em wn WF g7 ⟨D++[⟨1,eQ,o⟩],M,(p+o.size),_,_,?_,rfl,tD.out,?_,H1,hBE⟩
      .rw[hD.out];simp
      .omega
