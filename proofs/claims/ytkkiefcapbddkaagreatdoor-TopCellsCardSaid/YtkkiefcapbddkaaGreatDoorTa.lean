/- part of topCells.proved -/
import Derived.Test.YtkkiefcapbddkaaGreatDoorKn
import Derived.Test.YtkkiefcapbddkaaGreatDoorQg
set_option linter.all false
set_option maxRecDepth 1000000
set_option maxHeartbeats 0
noncomputable section
namespace Go.Abs
open Go.RowKit Go.Proofs YtkkiefcapbddkaaGreatDoor Mem ep Ord
variable{q:Bool}{s:ByteArray}{R:List Int}{A B C D E H I L b c g gt j k l n pos x:Nat}{P:Program}{v:Value}{w:World}
section
def tn(w:World)(b:Nat)(a:Array MapEntry)(c:Nat):World:={w with heap:=w.heap.setIfInBounds b (.map a c)}
def MX{w:World}{b e:Nat}{es a:Array MapEntry}(h:w.heap[b]? =some (.map a e)):(tn w b es c).heap[b]? =some (.map es c):=by
 have d:=(Array.getElem?_eq_some_iff.1 h).1;simp[tn,dc,d]
def zN(w:World)(b c:Nat)(a:Array MapEntry)(d:k≠b):(tn w b a c).heap[k]? =w.heap[k]? :=by
 simp[tn,dc,Ne.symm d]
def zO(w:World)(b c:Nat)(a:Array MapEntry)(d:B<=b):Below B w (tn w b a c):=
 ⟨rfl,rfl,rfl,by simp[tn],fun k e=>zN w b c a (by omega)⟩
def uC{w:World}{b:Nat}{es:Array MapEntry}{t:TypeId}{a:Array Value}(h:aE w g t a)(d:g≠b):aE (tn w b es c) g t a:=(zN w b c es d).trans h
def A7(n:Int)(v:Value):Array MapEntry:=#[⟨rL (0,n),v,0⟩]
section
variable[de]{w:World}{b:Nat}{n:Int}
def hum:Tryz.prog.underlying 446=some (.map 451 3):=rfl
def aaJ(v:Value)(w:World):(Instr.findAsking 451 (rL (0,n)) (A7 n v).toList 0).run tp w=.ok (some (0,v)) w:=by
 have a:(Op.equal 451 (rL (0,n)) (rL (0,n))).run tp w=.ok true w:=by
  have:=Mr w 0 n 0 n;rw[show((0:Int)==0&&n==n)=true by simp]at this;exact this
 simp[A7,Instr.findAsking,aB,a,Result.andThen]
def aaK(d:w.heap[b]? =some (.map #[] 0)):(Instr.lookup 446 (.map (some b)) (rL (0,n)) false).run tp w=.ok zQ w:=by
 have f:(zeroValue 3).run tp w=.ok zQ w:=rfl;have c:=qF (p:=(0,n)) (ents:=[]) (a:=none) (fun w=>rfl) w;simp[Instr.lookup,bT hum,da d,fun e=>rK w e,rL,Result.andThen,f];have c:(Instr.findKey 451 (.agg #[zQ,n]) []).run tp w=.ok none w:=c;simp[c,Result.andThen]
def XT(c:w.heap[b]? =some (.map (A7 n v) 1)):(Instr.lookup 446 (.map (some b)) (rL (0,n)) false).run tp w=.ok v w:=by
 have d:=qF (p:=(0,n)) (ents:=(A7 n v).toList) (fun w=>aaJ v w) w;have a:∀e:Bool,(Instr.checkKey e 10000 451 (rL (0,n))).run tp w=.ok () w:=fun e=>rK w e _ _;simp[Instr.lookup,bT hum,da c,a,d,Result.andThen]
def abE(d:w.heap[b]? =some (.map #[] 0)):(Instr.mapUpdate 446 (.map (some b)) (rL (0,n)) v).run tp w=.ok () (tn w b (A7 n v) 1):=by
 have f:=qF (p:=(0,n)) (ents:=[]) (a:=none) (fun w=>rfl) w;have c:∀e:Bool,(Instr.checkKey e 10000 451 (rL (0,n))).run tp w=.ok () w:=fun e=>rK w e _ _;simp[Instr.mapUpdate,bT hum,da d,c,f,MapKept.run_setObj_map _ d,Result.andThen];rfl
def abF{u:Value}(d:w.heap[b]? =some (.map (A7 n u) 1)):(Instr.mapUpdate 446 (.map (some b)) (rL (0,n)) v).run tp w=.ok () (tn w b (A7 n v) 1):=by
 have f:=qF (p:=(0,n)) (ents:=(A7 n u).toList) (fun w=>aaJ u w) w;have a:∀e:Bool,(Instr.checkKey e 10000 451 (rL (0,n))).run tp w=.ok () w:=fun e=>rK w e _ _;have c:=Mt (0,n) w;have g:(A7 n u)[0]? =some ⟨rL (0,n),u,0⟩:=rfl;simp[Instr.mapUpdate,bT hum,da d,a,f,g,c,MapKept.run_setObj_map _ d,Result.andThen];rfl
end
end
def nu{A:Option Addr}{L:List Nd}(e:dU w B A 9 Nd.cells L){x:Nd}(d:L[n]? =some x):
 ∃b a,A=some ⟨b,a,none⟩/\b<B/\w.rangeAt b (a+n*9) x.arr.toList:=by
 obtain⟨b,a,y,rfl,f,g,c⟩:=jT e (List.getElem?_eq_some_iff.1 d).1;have:=g.out;rw[d]at this;cases this;exact⟨b,a,rfl,f,c⟩
def EN(L:List Nd)(A:Option Addr)(c:Nat)(w:World)(j:dU w w A 9 Nd.cells L){x:Nd}(h:L[n]? =some x)(k:x.kind=1)(o:L.length<=4000):
 Calls tp 309 #[.agg #[.slice A L.length c],n] w fun e l=>e=true/\Below w w l:=by
 have p:=(List.getElem?_eq_some_iff.1 h).1;obtain⟨b,a,rfl,m,f⟩:=nu j h;have i:Below w w (w.alloc (.cells #[(b,a,L.length,c)] 48)):=(Below.refl _ _).alloc (ae _) _;have q:(w.alloc (.cells #[(b,a,L.length,c)] 48)).cell? w.heap.size=(b,a,L.length,c):=(aE.new w 48 #[(b,a,L.length,c)]).cell 0;have r:(w.alloc (.cells #[(b,a,L.length,c)] 48)).cell? (b,a+n*9)=zJ:=by
  rw[i.cell m];have:=f 0 x.kind rfl;rw[k]at this;exact this
 go_enter Tryz.func309,Tryz.ntmps309
 go_upto_region 1 with fail
 generalize w.alloc (.cells #[(b,a,L.length,c)] 48)=w1 at*;generalize d:w.heap.size=g at*;replace d:=aU d;go_wp2_with fail
 go_ret
 exact⟨rfl,by rw[d.out];exact i⟩
def KN(n:Int)(a b c:Value)(w:World):Calls tp 310 #[zQ,n,a,b,c] w fun e d=>e=true/\w=d:=by
 go_enter Tryz.func310,Tryz.ntmps310
 go_wp2_with fail
 go_ret
 exact⟨rfl,rfl⟩
def zP(L:List Nd)(A:Option Addr)(c:Nat)(w:World)(p:dU w w A 9 Nd.cells L){x:Nd}(k:L[n]? =some x)(C:L.length<=4000)(f:Value)(r:f.oneCell'=true){b:ByteArray}(t:(b.toList==[])=false)(hq:(b.toList==x.name.toList)=q):
 Calls tp 315 #[.agg #[.slice A L.length c],n,.agg #[f,b,zn]] w fun e u=>e=q/\Below w w u:=by
 have D:=(List.getElem?_eq_some_iff.1 k).1;obtain⟨l,d,rfl,v,h⟩:=nu p k;have y:=h 1 _ rfl;have z:(b.toList !=x.name.toList)= !q:=by simp[bne,hq]
 go_enter Tryz.func315,Tryz.ntmps315
 go_upto_region 1 with fail
 refine bM (fun Z=>aE Z w 48 #[(l,d,L.length,c)]/\aE Z (w.heap.size+1) 377 #[f,b,zn]/\Below w w Z) ⟨(aE.new _ _ _).alloc _,aE.newAt _ _ _ (by simp),((Below.refl _ _).alloc (ae _) _).alloc (by simp) _⟩ ?_;rintro m ⟨B,o,i⟩;have E:=B.cell 0;have F:=o.cell 1;have G:=o.cell 2;have H:m.cell? (l,d+n*9+1)=x.name:=(i.cell v).trans y;generalize a:w.heap.size=g at*;replace a:=aU a;cases q with
 |false=>
  have j:(!false)=true:=rfl
  go_quiet (fail)
  go_wp2_with fail
  go_ret
  exact⟨rfl,by rw[a.out];exact qH i _⟩
 |true=>
  have j:(!true)=false:=rfl
  go_quiet (fail)
  go_wp2_with fail
  go_loopw [26] (fun s wr=>s=zQ/\wr=m.drewN nq) (fun _ _=>0)
  case atStart=>exact⟨rfl,rfl⟩
  case round=>
   obtain⟨rfl,rfl⟩:=hrel;go_wp2_with fail
   go_ret
   exact⟨rfl,by rw[a.out];exact qH i _⟩
structure Bu(w:World)(gt gs bs os cs ga gf b0 off c l:Nat)(cb:Value)(nm:ByteArray):Prop where
 t:aE w gt 48 #[(b0,off,l,c)]
 s:aE w gs 286 #[(bs,os,1,cs)]
 r:w.rangeAt bs os [cb,nm,zn]
 a:aE w ga 447 #[.func (.func 310) #[] #[pt gt,pt gs,pt gf]]
 lt:bs<w.heap.size
def Bu.keep{w':World}{J:Nat}{M:Value}{N:ByteArray}(h:Bu w gt B C H I D J L A c l M N)(E:∀k,(k=gt\/k=B\/k=C\/k=D)->w'.heap[k]? =w.heap[k]?)(O:w.heap.size<=w'.heap.size):Bu w' gt B C H I D J L A c l M N:=
 ⟨(E gt (.inl rfl)).trans h.t,(E B (.inr (.inl rfl))).trans h.s,fun j v P=>by rw[<-h.r j v P];simp only[World.cell?,E C (.inr (.inr (.inl rfl)))],(E D (.inr (.inr (.inr rfl)))).trans h.a,Nat.lt_of_lt_of_le h.lt O⟩
def Bu.under{A:World}{J:Nat}{L:Value}{M:ByteArray}(h:Bu w gt B C D E H I J j c l L M)(N:Below w w A):Bu A gt B C D E H I J j c l L M:=
 h.keep (fun k O=>N.block k (by rcases O with rfl|rfl|rfl|rfl;exact h.t.lt;exact h.s.lt;exact h.lt;exact h.a.lt)) N.size
def Bu.all{J:Value}{L:ByteArray}(h:Bu w gt A B C D E H I j c l J L):w.rangeAt gt 0 [(I,j,l,c)]/\w.cell? A=(B,C,1,D)/\w.rangeAt B C [J,L,zn]/\w.cell? E=some (.func (.func 310) #[] #[pt gt,pt A,pt H]):=
 ⟨h.t.range,h.s.cell 0,h.r,h.a.cell 0⟩
def O3[de](L:List Nd)(w:World){gk d G U ga gf:Nat}{x:Nd}(hA:dU w B (A,j) 9 Nd.cells L)(hx:L[n]? =some x)(hl:L.length<=4000){D:Value}(V:D.oneCell'=true){I:ByteArray}(W:(I.toList==[])=false)(hq:(I.toList==x.name.toList)=q)
 (E:aE w gk 446 #[.map (some d)])(hM:w.heap[d]? =some (.map #[] 0))(hF:Bu w gt G C H U ga gf A j c L.length D I)(a9:d≠C)(X:B<=d):
 Calls tp 314 #[zQ,n,pt gk,pt gt,pt G,pt ga] w fun e w'=>e=q/\Below B w w':=by
 have em:=(Array.getElem?_eq_some_iff.1 hM).1;have ne1:∀{g:Nat} {t:TypeId} {U:Array Value},aE w g t U->g≠d:=fun h e=>by subst e;have h:w.heap[_]? =_:=h;rw[hM]at h;cases h
 go_enter Tryz.func314,Tryz.ntmps314
 go_upto_region 2 with fail
 have hP:=aE.new w 451 #[zQ,n];have Y:=E.alloc (.cells #[zQ,n] 451);have J:Below w w (w.alloc (.cells #[zQ,n] 451)):=(Below.refl _ _).alloc (ae _) _;have M:=(J.block d em).trans hM;have eq:=hF.under J;have am:w.heap.size≠d:=by omega
 generalize i8:w.heap.size=gp at*;generalize (w.alloc (.cells #[zQ,n] 451))=w1 at*;have ck:=Y.cell 0;have N:=hP.cell 0;have O:=hP.cell 1;have lk:(Instr.lookup 446 (.map (some d)) (.agg #[zQ,n]) false).run tp w1=.ok zQ w1:=aaK M;have up:(Instr.mapUpdate 446 (.map (some d)) (.agg #[zQ,n]) zJ).run tp w1=.ok () (tn w1 d (A7 n zJ) 1):=abE M;go_upto_region 6 with fail
 have P:=MX (es:=A7 n zJ) (c:=1) M;have r:=uC (b:=d) (c:=1) (es:=A7 n zJ) hP am;have u:=uC (b:=d) (c:=1) (es:=A7 n zJ) Y (ne1 E);have ge:=zO w1 d 1 (A7 n zJ) X;have i:=eq.keep (w':=tn w1 d (A7 n zJ) 1) (fun k hk=>zN _ _ _ _ (by rcases hk with rfl|rfl|rfl|rfl;exact ne1 hF.t;exact ne1 hF.s;exact Ne.symm a9;exact ne1 hF.a)) (by simp[tn]);have g7:B<=gp:=by omega
 have l:=(J.mono g7).trans ge;generalize tn w1 d (A7 n zJ) 1=p at*;have F:=(Array.getElem?_eq_some_iff.1 P).1;have v:B<=p.drew.heap.size:=by show B<=p.heap.size;omega
 cases q with
 |true=>
  refine a8 ?_;refine dW (S:=fun Z:World=>Z.rangeAt gt 0 [(A,j,L.length,c)]/\Z.cell? G=(C,H,1,U)/\Z.rangeAt C H [D,I,zn]/\Z.cell? ga=some (.func (.func 310) #[] #[pt gt,pt G,pt gf])) 999 [1,1,1,1,1,1,1,0,1,1,1,1,1,1] (by kernel_rfl) (fun _ _ _ _ _ h=>h) ((i.under ((Below.refl _ p).drew)).all) (fun g8=>?_);simp only[osq,fL,aF,ap];(refine gT (cQ rfl 48 _ rfl gt 0 rfl [(A,j,L.length,c)] _ (fun w h=>h.1) Tryz.underlying48 rfl (by kernel_rfl)) ?_;simp only[Act.put,zA,zB,zC]);iterate 5 (apply cU;rfl;(intro w m;go_simp;try(with_reducible rfl));simp only[Act.put,zA,zB,zC])
  (refine gT (cQ rfl 377 _ rfl C H rfl [D,I,zn] _ (fun w h=>h.2.2.1) Tryz.underlying377 rfl (by kernel_rfl)) ?_;simp only[Act.put,zA,zB,zC])
  refine cC rfl rfl (fun K E=>?_);go_simp
  refine(zP L (A,j) c p.drew ((hA.below (l.trans ((Below.refl B p).drew))).more v) hx hl D V W hq).mono ?_;rintro e Q ⟨rfl,f⟩;have o:=r.drew.below f r.lt;have y:=u.drew.below f u.lt;have z:=(f.block d F).trans P;have R:=(i.under ((Below.refl _ p).drew)).under f;have T:=(l.trans ((Below.refl B p).drew)).trans (f.mono v);go_wp2_with fail
  refine E.out _ _ (R.all) (fun _=>?_);clear E K;iterate 4 (apply cU;rfl;(intro w m;go_simp;try(with_reducible rfl));simp only[Act.put,zA,zB,zC])
  (refine Ci 310 #[zQ,n,pt gt,pt G,pt gf] rfl (fun _ _=>by kernel_rfl) (fun w m=>KN n _ _ _ w) ?_;simp only[Act.put,zA,zB,zC])
  (apply cU;rfl;(intro w m;go_simp;try(with_reducible rfl));simp only[Act.put,zA,zB,zC])
  refine fA (a7 ?_);have ck:=y.cell 0;have N:=o.cell 0;have O:=o.cell 1;have up:(Instr.mapUpdate 446 (.map (some d)) (.agg #[zQ,n]) zZ).run tp Q=.ok () (tn Q d (A7 n zZ) 1):=abF z;go_upto_region 8 with fail
  have ii:=MX (es:=A7 n zZ) (c:=1) z;have a5:=uC (b:=d) (c:=1) (es:=A7 n zZ) o am;have io:=uC (b:=d) (c:=1) (es:=A7 n zZ) y (ne1 E);have ip:=T.trans (zO Q d 1 (A7 n zZ) X);generalize tn Q d (A7 n zZ) 1=w6 at*;have ck:=io.cell 0;have N:=a5.cell 0;have O:=a5.cell 1;have lk:(Instr.lookup 446 (.map (some d)) (.agg #[zQ,n]) false).run tp w6=.ok zZ w6:=XT ii;go_wp2_with fail
  go_ret
  exact⟨rfl,ip⟩
 |false=>
  refine a8 ?_;refine dW (S:=fun Z:World=>Z.rangeAt gt 0 [(A,j,L.length,c)]/\Z.cell? G=(C,H,1,U)/\Z.rangeAt C H [D,I,zn]/\Z.cell? ga=some (.func (.func 310) #[] #[pt gt,pt G,pt gf])) 999 [1,1,1,1,1,1,1,0,1,1,1,1,1,1] (by kernel_rfl) (fun _ _ _ _ _ h=>h) ((i.under ((Below.refl _ p).drew)).all) (fun g8=>?_);simp only[osq,fL,aF,ap];(refine gT (cQ rfl 48 _ rfl gt 0 rfl [(A,j,L.length,c)] _ (fun w h=>h.1) Tryz.underlying48 rfl (by kernel_rfl)) ?_;simp only[Act.put,zA,zB,zC]);iterate 5 (apply cU;rfl;(intro w m;go_simp;try(with_reducible rfl));simp only[Act.put,zA,zB,zC])
  (refine gT (cQ rfl 377 _ rfl C H rfl [D,I,zn] _ (fun w h=>h.2.2.1) Tryz.underlying377 rfl (by kernel_rfl)) ?_;simp only[Act.put,zA,zB,zC])
  refine cC rfl rfl (fun K E=>?_);go_simp
  refine(zP L (A,j) c p.drew ((hA.below (l.trans ((Below.refl B p).drew))).more v) hx hl D V W hq).mono ?_;rintro e Q ⟨rfl,f⟩;have o:=r.drew.below f r.lt;have y:=u.drew.below f u.lt;have z:=(f.block d F).trans P;have R:=(i.under ((Below.refl _ p).drew)).under f;have T:=(l.trans ((Below.refl B p).drew)).trans (f.mono v);go_wp2_with fail
  refine E.out _ _ (R.all) (fun _=>?_);(apply cU;rfl;(intro w m;go_simp;try(with_reducible rfl));simp only[Act.put,zA,zB,zC]);iterate 4 (refine gT (Or.inr ⟨rfl,rfl⟩) ?_;simp only[Act.put,zA,zB,zC])
  (apply cU;rfl;(intro w m;go_simp;try(with_reducible rfl));simp only[Act.put,zA,zB,zC])
  refine fA (a7 ?_);have ck:=y.cell 0;have N:=o.cell 0;have O:=o.cell 1;have lk:(Instr.lookup 446 (.map (some d)) (.agg #[zQ,n]) false).run tp Q=.ok zJ Q:=XT z;go_wp2_with fail
  go_ret
  exact⟨rfl,T⟩
def KO[de](L:List Nd)(A:Option Addr)(c:Nat)(w:World)(H:dU w w A 9 Nd.cells L){x:Nd}(I:L[n]? =some x)(hk:x.kind=1)(hl:L.length<=4000){f:Nat}{cb:Value}(J:cb.oneCell'=true){p:ByteArray}(K:(p.toList==[])=false)(hq:(p.toList==x.name.toList)=q)
 (hb:f<w.heap.size)(hr:w.rangeAt f k [cb,p,zn]):
 Calls tp 264 #[.agg #[.slice A L.length c],n,.agg #[(f,k,1,E)]] w fun e w'=>e=q/\Below w w w':=by
 obtain⟨M,l,rfl,N,-⟩:=nu H I;have a5:∀w:World,(Instr.makeMap 446 none).run tp w=.ok (.map (some w.heap.size)) (w.alloc (.map #[] 0)):=fun w=>rfl;go_enter Tryz.func264,Tryz.ntmps264
 go_upto_region 1 with fail
 refine bM (fun Z=>aE Z w 48 #[(M,l,L.length,c)]/\aE Z (w.heap.size+1) 286 #[(f,k,1,E)]/\Below w w Z) ⟨(aE.new _ _ _).alloc _,aE.newAt _ _ _ (by simp),((Below.refl _ _).alloc (ae _) _).alloc (by simp) _⟩ ?_;rintro w1 ⟨F,o,G⟩;have e0:=F.cell 0;have e1:=o.cell 0;have O:=(H.below G).more G.size;obtain⟨g,r⟩:=iG w.heap.size;rw[<-r]at F o G e0 e1 hb N|-;replace r:=aU r;go_upto_region 3 with(go_at_call 309;refine(EN L (M,l) c w1 O I hk hl).mono ?_;rintro e a ⟨rfl,b⟩;have e2:a.cell? (g+1,0)=(f,k,1,E):=(o.below b o.lt).cell 0)
 have s:=F.below b F.lt;have t:=o.below b o.lt;have a9:=o.lt;have u:=G.trans (b.mono (by omega));have P:=b.size;have Q:a.rangeAt f k [cb,p,zn]:=fun j v R=>by rw[u.cell hb];exact hr j v R
 go_upto_region 7 with fail
 have h:Below a a (((((a.alloc (.map #[] 0)).alloc (.cells #[.map (some a.heap.size)] 446)).alloc (.cells #[.func (.func 314) #[] #[pt (a.heap.size+1),pt g,pt (g+1),pt (a.heap.size+1+1+1)]] 447)).alloc (.cells #[.func (.func 310) #[] #[pt g,pt (g+1),pt (a.heap.size+1+1)]] 447))):=
  ((((Below.refl _ _).alloc (ae _) _).alloc (by simp) _).alloc (by simp;omega) _).alloc (by simp;omega) _
 refine bM (fun Z=>Below a a Z/\Z.heap[a.heap.size]? =some (.map #[] 0)/\aE Z (a.heap.size+1) 446 #[.map (some a.heap.size)]/\aE Z (a.heap.size+1+1) 447 #[.func (.func 314) #[] #[pt (a.heap.size+1),pt g,pt (g+1),pt (a.heap.size+1+1+1)]]/\aE Z (a.heap.size+1+1+1) 447 #[.func (.func 310) #[] #[pt g,pt (g+1),pt (a.heap.size+1+1)]])
  ⟨h,(heap_alloc_old _ _ (by simp;omega)).trans ((aG _ _ (by simp;omega)).trans ((aG _ _ (by simp)).trans (dy a _))),((aE.newAt _ _ _ (by simp)).alloc _).alloc _,(aE.newAt _ _ _ (by simp)).alloc _,aE.newAt _ _ _ (by simp)⟩ ?_
 rintro y ⟨d,hM,hK,z,B⟩;have S:=s.below d s.lt;have C:=t.below d t.lt;have h:=u.trans (d.mono (by omega));have T:=d.size;have i:f<a.heap.size:=by omega
 have U:y.rangeAt f k [cb,p,zn]:=fun j v R=>by rw[d.cell i];exact Q j v R
 have D:=(H.below (show Below w w y by rw[<-r.out];exact h));rw[<-r.out]at D;obtain⟨m,V⟩:=iG a.heap.size;rw[<-V]at hM hK z B T P i|-;have W:g<=m:=by omega
 have X:m≠f:=by omega
 replace V:=aU V;have e1:=C.cell 0;have e2:y.cell? (m+1+1,0)=some (.func (.func 314) #[] #[pt (m+1),pt g,pt (g+1),pt (m+1+1+1)]):=z.cell 0;have Y:Bu y g (g+1) f k E (m+1+1+1) (m+1+1) M l c L.length cb p:=⟨S,C,U,B,by omega⟩;go_wp2_with (go_at_call 314;go_loud (refine(O3 L y D I hl J K hq hK hM Y X W).mono ?_;rintro e w4 ⟨rfl,am⟩))
 go_ret
 exact⟨rfl,by rw[<-r.out];exact h.trans am⟩
def EO(l:Nat)(A:Option Addr)(c:Nat)(w:World)(f:n<l)(h:l<=4000):
 Calls tp 119 #[.agg #[.slice A l c],n] w fun e b=>e=true/\Below w w b:=by
 have d:Below w w (w.alloc (.cells #[.slice A l c] 48)):=(Below.refl _ _).alloc (ae _) _;have i:(w.alloc (.cells #[.slice A l c] 48)).cell? w.heap.size=some (.slice A l c):=(aE.new w 48 #[.slice A l c]).cell 0;go_enter Tryz.func119,Tryz.ntmps119
 go_upto_region 1 with fail
 generalize w.alloc (.cells #[.slice A l c] 48)=w1 at*;generalize a:w.heap.size=g at*;replace a:=aU a;go_wp2_with fail
 go_ret
 exact⟨rfl,by rw[a.out];exact d⟩
def Y5(l:Nat)(A:Option Addr)(c:Nat)(w:World):
 Calls tp 119 #[.agg #[.slice A l c],zm] w fun e a=>e=false/\Below w w a:=by
 have b:Below w w (w.alloc (.cells #[.slice A l c] 48)):=(Below.refl _ _).alloc (ae _) _;go_enter Tryz.func119,Tryz.ntmps119
 go_wp2_with fail
 go_ret
 exact⟨rfl,b⟩
def O4(L:List Nd)(A:Option Addr)(c:Nat)(w:World)(q:dU w w A 9 Nd.cells L){x:Nd}(o:L[n]? =some x)(r:x.kind=1)(t:L.length<=4000)(u:ByteArray):
 Calls tp 265 #[.agg #[.slice A L.length c],n,u] w fun e v=>e=tQ #[eQ,false]/\Below w w v:=by
 have y:=(List.getElem?_eq_some_iff.1 o).1;obtain⟨d,a,rfl,l,f⟩:=nu q o;have z:w.cell? (d,a+n*9)=zJ:=by
  have:=f 0 x.kind rfl;rw[r]at this;exact this
 have B:=f 3 _ rfl;go_enter Tryz.func265,Tryz.ntmps265
 go_upto_region 1 with fail
 refine bM (fun Z=>aE Z w 48 #[(d,a,L.length,c)]/\Below w w Z) ⟨aE.new _ _ _,(Below.refl _ _).alloc (ae _) _⟩ ?_;rintro C ⟨h,p⟩;obtain⟨g,j⟩:=iG w.heap.size;rw[<-j]at h p l|-;replace j:=aU j;have D:=h.cell 0;go_upto_region 3 with(go_at_call 119;refine(EO L.length _ c C y t).mono ?_;rintro e k ⟨rfl,i⟩;have m:=h.below i h.lt;have E:k.cell? g=(d,a,L.length,c):=m.cell 0;have b:=p.trans (i.mono (by have:=h.lt;omega));have F:k.cell? (d,a+n*9)=zJ:=(b.cell l).trans z;have G:k.cell? (d,a+n*9+3)=zn:=(b.cell l).trans B)
 go_wp2_with fail
 go_loopw [30] (fun s wr=>s=zQ/\wr=k) (fun _ _=>0)
 case atStart=>exact⟨rfl,rfl⟩
 case round=>
  obtain⟨rfl,rfl⟩:=hrel;go_wp2_with fail
  go_ret2
  exact⟨rfl,by rw[<-j.out];exact b⟩
def Sh(L:List Nd)(A:Option Addr)(c:Nat)(w:World)(f:dU w w A 9 Nd.cells L){x:Nd}(g:L[n]? =some x)(h:x.kind=1)(i:L.length<=4000):
 Calls tp 185 #[.agg #[.slice A L.length c],n] w fun e j=>e=.returned zn/\Below w w j:=by
 go_enter Tryz.func185,Tryz.ntmps185
 go_upto_region 1 with fail
 refine bM (fun Z=>aE Z w 48 #[.slice A L.length c]/\Below w w Z) ⟨aE.new _ _ _,(Below.refl _ _).alloc (ae _) _⟩ ?_;rintro k ⟨l,a⟩;have b:=(f.below a).more a.size;have m:=l.cell 0;go_wp2_with (go_at_call 265;refine(O4 L A c k b g h i _).mono ?_;rintro e o ⟨rfl,d⟩)
 go_ret
 exact⟨rfl,a.trans (d.mono a.size)⟩
structure pC(w w':World)(b:Nat):Prop where
 os:w'.os=w.os
 tape:w'.tape=w.tape
 output:w'.output=w.output
 size:w.heap.size<=w'.heap.size
 iD:∀k,k<w.heap.size->k≠b->w'.heap[k]? =w.heap[k]?
section
structure kA(w:World)(a o:Nat)(R:List Int):Prop where
 at_:∀(i:Nat) c,R[i]? =some c->w.cell? (a,o+i)=some (.int .i32 c)
structure iB(w:World)(b:Nat)(t:TypeId)(a o:Nat)(R:List Int)(cap p:Nat):Prop where
 dJ:aE w b t #[(a,o,R.length,cap),p]
 row:kA w a o R
 ne:a≠b
 lt:a<w.heap.size
section
variable{w w':World}{b:Nat}{t:TypeId}{a o:Nat}{R:List Int}{cap p:Nat}
def kA.keep(h:kA w a o R)(j:w'.heap[a]? =w.heap[a]?):kA w' a o R:=
 ⟨fun i c A=>by rw[<-h.at_ i c A];simp only[World.cell?,j]⟩
def iB.below(h:iB w b t a o R cap p)(j:Below w w w'):iB w' b t a o R cap p:=
 ⟨h.dJ.below j h.dJ.lt,h.row.keep (j.block a h.lt),h.ne,Nat.lt_of_lt_of_le h.lt j.size⟩
def qS:(Tryz.prog.info? 21).map (fun i=>(i.zero,i.size,i.bytes))=some (some (.int .i32 0),1,4):=by kernel_rfl
def kY(h:iB w b t a o R cap p)(c:R.length<=1000000)(d:p<=1000000):Calls tp 34 #[pt b] w fun e w'=>e=.returned (.int .i64 ((R.length:Int)-p))/\eL w w':=by
 have f:=h.dJ.cell 0;have g:=h.dJ.cell 1;have i:IntKind.i64.wrap ((R.length:Int)-p)=(R.length:Int)-p:=IntWalk.i64_in _ (by omega);go_enter Tryz.func34,Tryz.ntmps34
 go_wp2_with fail
 go_quiet (fail)
 go_wp2_with fail
 go_ret
 exact⟨rfl,nq,rfl⟩
def iB.drawn(h:iB w b t a o R cap p)(j:eL w w'):iB w' b t a o R cap p:=h.below (j.below _)
def mg(h:iB w b t a o R cap p)(f:R.length<=1000000){c:Int}(hR:R[p+k]? =some c):Calls tp 78 #[pt b,k] w fun e w'=>e=tQ #[.int .i32 c,true]/\eL w w':=by
 have g:=(List.getElem?_eq_some_iff.1 hR).1;have d1:decide ((k:Int)<0)=false:=aA (by omega);have d2:decide ((R.length:Int)-p<=(k:Int))=false:=aA (by omega);have i:IntKind.i64.wrap ((p:Int)+k)=((p+k:Nat):Int):=by rw[bE _ (by omega)];omega
 go_enter Tryz.func78,Tryz.ntmps78
 go_wp2_with (go_at_call 34;refine(kY h f (by omega)).mono ?_;rintro e j ⟨rfl,d⟩)
 have l:=(h.drawn d).dJ.cell 0;have m:=(h.drawn d).dJ.cell 1;have n:=(h.drawn d).row.at_ _ _ hR;go_wp2_with fail
 go_quiet (fail)
 go_wp2_with fail
 go_ret2
 exact⟨rfl,d.more nq⟩
structure fX(w w':World)(b:Nat)(t:TypeId)(a o:Nat)(R:List Int)(cap p':Nat):Prop where
 put:pC w w' b
 cur:iB w' b t a o R cap p'
def mh(h:iB w b t a o R cap p)(j:R.length<=1000000){c:Int}(hR:R[p]? =some c):Calls tp 41 #[pt b] w fun e w'=>e=tQ #[.int .i32 c,true]/\fX w w' b t a o R cap (p+1):=by
 have l:=(List.getElem?_eq_some_iff.1 hR).1;have m:IntKind.i64.wrap ((p:Int)+1)=(p:Int)+1:=bE _ (by omega);go_enter Tryz.func41,Tryz.ntmps41
 go_wp2_with (go_at_call 78;refine(mg h j (k:=0) hR).mono ?_;rintro e g ⟨rfl,i⟩;have d:=h.drawn i;have q:g.cell? (b,1)=p:=d.dJ.cell 1;have f1:g.frozen? (b,1)=false:=d.dJ.free 1)
 go_ret2
 refine⟨rfl,?_⟩;obtain⟨n,rfl⟩:=i;exact⟨⟨rfl,rfl,rfl,by simp,fun k r f=>heap_setCell_other _ _ _ _ f⟩,d.dJ.put 1 _,d.row.keep (heap_setCell_other _ _ _ _ h.ne),h.ne,by simpa using d.lt⟩
def pC.refl(w:World)(b:Nat):pC w w b:=⟨rfl,rfl,rfl,ae _,fun _ _ _=>rfl⟩
def pC.trans{j A:World}(x:pC w j b)(y:pC j A b):pC w A b:=
 ⟨y.os.trans x.os,y.tape.trans x.tape,y.output.trans x.output,Nat.le_trans x.size y.size,fun k B C=>(y.iD k (Nat.lt_of_lt_of_le B x.size) C).trans (x.iD k B C)⟩
def pC.nU{j:World}(x:Below w w j):pC w j b:=⟨x.os,x.tape,x.output,x.size,fun k A _=>x.block k A⟩
def iQ{c:World}{d:TypeId}{e:Array Value}(h:aE w g d e)(x:pC w c b)(f:g≠b):aE c g d e:=(x.iD g h.lt f).trans h
def fX.on{j A:World}(x:fX w j b t a o R cap C)(y:fX j A b t a o R cap B):fX w A b t a o R cap B:=⟨x.put.trans y.put,y.cur⟩
def fX.below{j A:World}{B:Nat}(x:fX w j b t a o R cap B)(y:Below j j A):fX w A b t a o R cap B:=⟨x.put.trans (.nU y),x.cur.below y⟩
def fX.iD{j A:World}{D B:Nat}(x:fX w j b t a o R cap B)(h:iB w b t a o R cap D)(y:Below w j A):fX w A b t a o R cap B:=
 ⟨⟨y.os.trans x.put.os,y.tape.trans x.put.tape,y.output.trans x.put.output,Nat.le_trans x.put.size y.size,fun k C E=>(y.block k C).trans (x.put.iD k C E)⟩,
  x.cur.dJ.below y h.dJ.lt,x.cur.row.keep (y.block a h.lt),h.ne,Nat.lt_of_lt_of_le x.cur.lt y.size⟩
def fX.refl(h:iB w b t a o R cap p):fX w w b t a o R cap p:=⟨pC.refl _ _,h⟩
def jM(h:iB w b t a o R cap p)(d:R.length<=1000000){c:Int}(hR:R[p+k]? =some c){f:TypeId}{g:Value}(i:aE w x f #[pt b,g]):
 Calls tp 37 #[pt x,k] w fun e w'=>e=.returned (.int .i32 c)/\eL w w':=by
 have l:=i.cell 0;go_enter Tryz.func37,Tryz.ntmps37
 go_wp2_with (go_at_call 78;refine(mg h d hR).mono ?_;rintro e m ⟨rfl,j⟩)
 go_ret
 exact⟨rfl,j⟩
end
end
section
def tw(c:Int)(d:97<=c)(f:c<=122)(w:World):Calls tp 36 #[.int .i32 c] w fun e w'=>e=true/\w=w':=by
 go_enter Tryz.func36,Tryz.ntmps36
 go_wp2_with fail
 go_ret
 exact⟨rfl,rfl⟩
def uM(w:World):Calls tp 36 #[.int .i32 47] w fun e w'=>e=false/\w=w':=by
 go_enter Tryz.func36,Tryz.ntmps36
 go_wp2_with fail
 go_ret
 exact⟨rfl,rfl⟩
section
variable{w w':World}{b:Nat}{t:TypeId}{a o:Nat}{R:List Int}{cap p:Nat}
def is_lt(h:iB w b t a o R cap p)(z:R.length<=1000000){c:Int}(hR:R[p]? =some c){B:TypeId}{C:Value}(m:aE w x B #[pt b,C]):
 Calls tp 38 #[pt x,zQ,.string ⟨#[60]⟩] w fun e w'=>e=.returned (.bool (c==60))/\Below w w w':=by
 have J:=m.cell 0;go_enter Tryz.func38,Tryz.ntmps38
 have j:Conv.runesFrom ⟨#[60]⟩ (ByteArray.mk #[60]).size 0 #[]=#[.int .i32 60]:=by kernel_rfl
 have n:=run_runes_of_string (P:=tp) w 9 54 21 ⟨#[60]⟩ Tryz.underlying9 gj Bb (by rw[j];decide);rw[j]at n;generalize D:grownCap w (#[Value.int .i32 60]:Array Value).size 0 21=gc at*;have E:aE (w.drew.alloc (.cells (#[.int .i32 60]++Array.replicate (gc-(#[Value.int .i32 60]:Array Value).size) (.int .i32 0)) 21)) w 21 (#[.int .i32 60]++Array.replicate (gc-(#[Value.int .i32 60]:Array Value).size) (.int .i32 0)):=aE.new w.drew _ _;have l:Below w w (w.drew.alloc (.cells (#[.int .i32 60]++Array.replicate (gc-(#[Value.int .i32 60]:Array Value).size) (.int .i32 0)) 21)):=((Below.refl w w).drew).alloc (ae _) _;generalize w.drew.alloc (.cells (#[.int .i32 60]++Array.replicate (gc-(#[Value.int .i32 60]:Array Value).size) (.int .i32 0)) 21)=w1 at*;have F:w1.cell? w.heap.size=some (.int .i32 60):=by rw[E.cell 0,Array.getElem?_append_left (by simp)];rfl
 have G:=h.below l;have q:=m.below l m.lt;generalize w.heap.size=g at*;go_upto_region 2 with fail
 go_loopw [14] (fun s wr=>∃k:Nat,k<=1/\s=k/\(k=1->(c==60)=true)/\eL w1 wr) (fun i _=>1-(intOf i).toNat)
 case atStart=>exact⟨0,by omega,rfl,by omega,eL.refl _⟩
 case round=>
  obtain⟨k,K,rfl,r,f⟩:=hrel;have A:=G.drawn f;have u:=q.drawn f;have L:=u.cell 0;have M:wr.cell? g=some (.int .i32 60):=by rw[<-F];simp only[World.cell?,f.heap]
  by_cases v:k=0
  .subst v;cases hq:c==60 with
   |true=>
    have H:(c !=60)=false:=by simp at hq|-;exact hq
    go_wp2_with (go_at_call 78;refine(mg A z (k:=0) hR).mono ?_;rintro e I ⟨rfl,d⟩)
    go_roundw
    case rel=>exact⟨1,by omega,rfl,fun _=>by first|trivial|exact hq,f.trans d⟩
    case measure=>simp[intOf]
   |false=>
    have H:(c !=60)=true:=by simp at hq|-;exact hq
    go_wp2_with (go_at_call 78;refine(mg A z (k:=0) hR).mono ?_;rintro e I ⟨rfl,d⟩)
    go_ret
    exact⟨by rw[hq];rfl,l.trans ((f.trans d).below _)⟩
  .have y:k=1:=by omega
   subst y;rw[r rfl];go_wp2_with fail
   go_ret
   exact⟨rfl,l.trans (f.below _)⟩
def tE(h:iB w b t a o R cap p)(j:R.length<=1000000)(hR:R[p]? =some 60){c:Int}(g:R[p+1]? =some c)(r:c=47\/(97<=c/\c<=122)){s:TypeId}{u:Value}(k:aE w x s #[pt b,u]):
 Calls tp 35 #[pt x] w fun e w'=>e=true/\Below w w w':=by
 go_enter Tryz.func35,Tryz.ntmps35
 go_upto_region 3 with(go_at_call 38;refine(is_lt h j hR k).mono ?_;rintro e y ⟨rfl,d⟩)
 have q:=h.below d;have i:=k.below d k.lt;rcases r with rfl|⟨l,m⟩
 .go_wp2_with (first|(go_at_call 37;refine(jM q j g i).mono ?_;rintro e n ⟨rfl,f⟩)|(go_at_call 36;refine(uM n).mono ?_;rintro e v ⟨rfl,rfl⟩))
  go_ret
  exact⟨rfl,d.trans (f.below _)⟩
 .go_wp2_with (first|(go_at_call 37;refine(jM q j g i).mono ?_;rintro e n ⟨rfl,f⟩)|(go_at_call 36;refine(tw c l m n).mono ?_;rintro e v ⟨rfl,rfl⟩))
  go_ret
  exact⟨rfl,d.trans (f.below _)⟩
def CK(h:iB w b t a o R cap p)(f:R.length<=1000000){c:Int}(hR:R[p]? =some c)(g:c≠60){i:TypeId}{j:Value}(k:aE w x i #[pt b,j]):
 Calls tp 35 #[pt x] w fun e w'=>e=false/\Below w w w':=by
 have l:(c==60)=false:=by simpa using g
 go_enter Tryz.func35,Tryz.ntmps35
 go_wp2_with (go_at_call 38;refine(is_lt h f hR k).mono ?_;rw[l];rintro e m ⟨rfl,d⟩)
 go_ret
 exact⟨rfl,d⟩
end
end
section
def Aa(c:Int)(h:47<=c)(w:World):Calls tp 87 #[.int .i32 c] w fun e w'=>e=false/\w=w':=by
 have d1:(c==9)=false:=by rw[eZ];omega
 have d2:(c==10)=false:=by rw[eZ];omega
 have d3:(c==12)=false:=by rw[eZ];omega
 have d4:(c==32)=false:=by rw[eZ];omega
 go_enter Tryz.func87,Tryz.ntmps87
 go_wp2_with fail
 go_ret
 exact⟨rfl,rfl⟩
def SI(c:Int)(d:97<=c)(f:c<=122)(w:World):Calls tp 86 #[.int .i32 c] w fun e w'=>e=true/\w=w':=by
 have d1:(c !=47)=true:=by simp;omega
 have d2:(c !=62)=true:=by simp;omega
 go_enter Tryz.func86,Tryz.ntmps86
 go_wp2_with (go_at_call 87;refine(Aa c (by omega) w).mono ?_;rintro e g ⟨rfl,rfl⟩)
 go_ret
 exact⟨rfl,rfl⟩
def SJ(w:World):Calls tp 86 #[.int .i32 62] w fun e w'=>e=false/\w=w':=by
 go_enter Tryz.func86,Tryz.ntmps86
 go_wp2_with (go_at_call 87;refine(Aa 62 (by omega) w).mono ?_;rintro e c ⟨rfl,rfl⟩)
 go_ret
 exact⟨rfl,rfl⟩
section
variable{w w':World}{b:Nat}{t:TypeId}{a o:Nat}{R:List Int}{cap p:Nat}
def KY(h:iB w b t a o R cap p)(J:R.length<=1000000){tx:TypeId}{ov:Value}(G:aE w x tx #[pt b,ov])(j:x≠b)
 (K:∀i,i<L->∃c,R[p+i]? =some c/\(97<=c/\c<=122))(H:R[p+L]? =some 62):
 Calls Tryz.prog 85 #[.pointer (some ⟨x,0,none⟩),.func (.func 86) #[] #[]] w fun e w'=>∃v,e=.returned v/\fX w w' b t a o R cap (p+L)/\w'.ownsRow w.heap.size 21 1 v L (((R.drop p).take L).map (Value.int .i32)):=by
 obtain⟨i0,hi,M,N,O⟩:=info_parts qS;have a9:=(List.getElem?_eq_some_iff.1 H).1;have first:∃c,R[p+0]? =some c:=by
  rcases cz L with e|e
  .subst e;exact⟨62,H⟩
  .obtain⟨c,n,_⟩:=K 0 e;exact⟨c,n⟩
 obtain⟨cf,s⟩:=first
 have em:=G.cell 0;go_enter Tryz.func85,Tryz.ntmps85
 go_wp2_with (first|(go_at_call 78;refine(mg h J s).mono ?_;rintro e w1 ⟨rfl,hd⟩))
 go_loopg [5,6,7] L (fun g v s6 s7 wr=>∃(k:Nat) (c:Int),g=L-k/\k<=L/\s6=.int .i32 c/\s7=true/\R[p+k]? =some c/\fX w wr b t a o R cap (p+k)/\wr.ownsRow w 21 1 v k (((R.drop p).take k).map (Value.int .i32)))
 case atStart=>exact⟨0,cf,rfl,Nat.zero_le _,rfl,rfl,s,(fX.refl h).below (hd.below _),dl _ _ _ _⟩
 case round=>
  obtain⟨k,c,rfl,hk,rfl,rfl,u,I,P⟩:=hrel;have Q:=iQ G I.put j;have S:=I.put.size;have cx:=Q.cell 0;by_cases y:k<L
  .obtain⟨c',n,h2⟩:=K k y;rw[u]at n;cases n;have T:(R.drop p)[k]? =some c:=by rw[bd];exact u
   have U:∃q,R[p+(k+1)]? =some q:=by
    rcases cD (k+1) L with e|e
    .obtain⟨q,n,_⟩:=K (k+1) e;exact⟨q,n⟩
    .have:k+1=L:=by omega
     rw[this];exact⟨62,H⟩
   obtain⟨q,z⟩:=U;go_upto_region 5 with(go_at_call 86;refine(SI c h2.1 h2.2 wr).mono ?_;rintro e r ⟨rfl,f⟩;have d:eL wr r:=f▸eL.refl _;clear f)
   obtain⟨A2,q2,rfl,-⟩:=aV P;have A:=(ca P (d.below _)).alloc (.cells #[.int .i32 c] 21);have B:w.heap.size<=r.heap.size:=by rw[d.heap];exact S
   have V:=I.below (d.below _);have W:=df (aE.new r 21 #[.int .i32 c]) (news:=[.int .i32 c]) rfl;go_wp2_with (first|(at_builtin;refine eC _ rfl (.tmp 30) (.tmp 32) 54 rfl w 21 i0 (.int .i32 0) 1 4 gj hi M N O rfl (by decide) (.slice A2 k q2) _ _ rfl A r 1 1 [.int .i32 c] rfl rfl W (by simp[Value.oneCell']) (by unfold maxLen;omega) (by omega) (by simp;omega) ?_))
   intro v' w3 C X _;have l:=V.iD h (((Below.refl _ _).alloc B _).trans (eo A X (by simp;omega)));have Y:=iQ G l.put j;have eq:=Y.cell 0;go_wp2_with (first|(go_at_call 41;refine(mh l.cur J u).mono ?_;rintro e w4 ⟨rfl,D⟩;have m:=l.on D;have Z:=iQ G m.put j;have ge:w4.cell? x=pt b:=Z.cell 0)|(go_at_call 78;refine(mg m.cur J (k:=0) (c:=q) z).mono ?_;rintro e w5 ⟨rfl,E⟩))
   go_roundg (L-(k+1))
   case measure=>omega
   case rel=>
    refine⟨k+1,q,rfl,y,rfl,rfl,z,m.below (E.below _),?_⟩;have am:=aZ C (fun g hg F=>D.put.iD g F (fun e=>by have:=(C.lt g hg).1;have:=h.dJ.lt;omega));rw[bJ,T];simpa using ca am (E.below _)
  .have a5:k=L:=by omega
   subst a5;rw[H]at u;cases u;go_wp2_with (go_at_call 86;refine(SJ wr).mono ?_;rintro e r ⟨rfl,f⟩;have d:eL wr r:=f▸eL.refl _;clear f)
   go_ret
   exact⟨_,rfl,I.below (d.below _),ca P (d.below _)⟩
end
def KZ(w:World)(l:Nat)(v:Value)(d:List Int)(C:w.ownsRow l 21 1 v d.length (d.map (Value.int .i32)))(h:0<d.length)(S:d.length<=1000000)(H:∀c∈d,97<=c/\c<=122):
 Calls tp 84 #[v] w fun e w'=>e=.returned (runesBytes d)/\Below w w w':=by
 obtain⟨I,J,n,q,r⟩:=info_parts qS;obtain⟨g,c,rfl,T,U,K⟩:=dL C h;have u:=C.cells (g:=g) rfl;go_enter Tryz.func84,Tryz.ntmps84
 go_wp2_with (refine cR _ _ _ _ rfl ?_)
 refine⟨?_⟩;refine(eC _ rfl (.const zn) (.tmp 6) 54 rfl w 21 I (.int .i32 0) 1 4 gj J n q r rfl (by decide) zn 0 [] rfl (dl _ _ _ _) g d.length c (d.map (Value.int .i32)) rfl (by simp) u (by simp[Value.oneCell']) (by unfold maxLen;omega) (by omega) (ae _) ?_);intro V L f y _;rw[bc,dt]at f;have z:=eo (dl w w 21 1) y (Nat.le_refl _);obtain⟨m,D,rfl,E,M,F⟩:=dL f h;go_wp2_with fail
 go_loopw [10] (fun s wr=>∃k:Nat,k<=d.length/\s=k/\wr=L) (fun i _=>d.length-(intOf i).toNat)
 case atStart=>exact⟨0,aM _,rfl,rfl⟩
 case round=>
  obtain⟨k,W,rfl,rfl⟩:=hrel;by_cases A:k<d.length
  .have X:=lJ k d.length (by omega);obtain⟨x,G⟩:∃x,d[k]? =some x:=⟨d[k],List.getElem?_eq_getElem A⟩;have Y:wr.cell? (m,k)=some (.int .i32 x):=by
    have:=f.cells (g:=m) rfl k (.int .i32 x) (by simp[G]);rwa[Addr.add_mid,bc]at this
   have N:=H x (List.mem_of_getElem? G);have d1:=decide_eq_true (by omega);have d2:decide (x<=90)=false:=aA (by omega);go_wp2_with fail
   go_roundw
   case rel=>exact⟨k+1,by omega,by go_num,trivial⟩
   case measure=>simp[intOf];omega
  .have B:k=d.length:=by omega
   subst B;have O:(convert 54 9 (m,d.length,D)).run tp wr=.ok (runesBytes d) wr:=by
    have:=run_convert_runes (P:=tp) wr 54 9 21 m d.length D d (Nat.le_refl _) Tryz.underlying54 Bb km (fun j Q=>by
     refine f.cells (g:=m) rfl j _ ?_;rw[ai,ah,af Q];rfl)
    rwa[bL]at this
   go_wp2_with fail
   go_ret
   exact⟨rfl,z⟩
end
section
def BA{a:Act}{w:World}{Q:Exit->Act->World->Prop}{c d:Code}(l:Nat)(g:findLabel c l=some d)
 (first:c.wp P (Exit.jump l (fun f w'=>d.wp P (Exit.noGoto Q) f w') Q) a w):(Code.scope c).wp P Q a w:=by
 refine wp_scope_jumps l (fun f w'=>d.wp P (Exit.noGoto Q) f w') (fun _ _=>0) g first ?_
 intro f w' h;refine ma h ?_;intro e i j hq;cases e<;>first|exact hq|exact hq.elim
section
variable{w w':World}{b:Nat}{t:TypeId}{a o:Nat}{R:List Int}{cap p:Nat}
def Iv(g:Int)(h:iB w b t a o R cap p)(M:R.length<=1000000){tx:TypeId}{ov:Value}(J:aE w x tx #[pt b,ov])(E:x≠b)(am:0<L)
 (W:∀i,i<L->∃c,R[p+i]? =some c/\(97<=c/\c<=122))(F:R[p+L]? =some 62):
 Calls tp 43 #[pt x,g] w fun e w'=>e=tQ #[.agg #[g,(runesBytes ((R.drop p).take L)),eQ,zn,false],true]/\fX w w' b t a o R cap (p+L+1):=by
 go_enter Tryz.func43,Tryz.ntmps43
 go_upto_region 1 with fail
 have f:aE (w.alloc (.cells #[zQ,eQ,eQ,zn,false] 97)) w 97 #[zQ,eQ,eQ,zn,false]:=aE.new _ _ _;have u:Below w w (w.alloc (.cells #[zQ,eQ,eQ,zn,false] 97)):=(Below.refl _ _).alloc (ae _) _;have X:(w.alloc (.cells #[zQ,eQ,eQ,zn,false] 97)).heap.size=w.heap.size+1:=by simp
 generalize (w.alloc (.cells #[zQ,eQ,eQ,zn,false] 97))=w1 at*;refine BA 1 rfl ?_;go_upto_region 5 with fail
 have d:aE (w1.alloc (.cells #[g,eQ,eQ,zn,false] 97)) (w.heap.size+1) 97 #[g,eQ,eQ,zn,false]:=aE.newAt _ _ _ X.symm;replace f:=f.alloc (.cells #[g,eQ,eQ,zn,false] 97);replace u:=u.alloc (by omega) (.cells #[g,eQ,eQ,zn,false] 97);have z1:(w1.alloc (.cells #[g,eQ,eQ,zn,false] 97)).heap.size=w.heap.size+1+1:=by simp[X]
 generalize w1.alloc (.cells #[g,eQ,eQ,zn,false] 97)=w2 at*;replace f:=f.alloc (.cells #[eQ,eQ] 172);replace d:=d.alloc (.cells #[eQ,eQ] 172);replace u:=u.alloc (by omega) (.cells #[eQ,eQ] 172);have z2:(w2.alloc (.cells #[eQ,eQ] 172)).heap.size=w.heap.size+1+1+1:=by simp[z1]
 generalize w2.alloc (.cells #[eQ,eQ] 172)=w3 at*;have h3:=h.below u;have N:=J.below u J.lt;have hM:=(fX.refl h).below u;have O:=h.dJ.lt;have P:=J.lt;obtain⟨B,y⟩:=iG w.heap.size;rw[<-y]at f d O P z2|-;replace y:=aU y;have Q:((R.drop p).take L).length=L:=by
  have:=(aa.1 F).1;rw[aN,cS];omega
 have a5:L<=1000000:=by
  have:=(aa.1 F).1;omega
 have z:∀c∈(R.drop p).take L,97<=c/\c<=122:=by
  intro c hc;obtain⟨i,K⟩:=List.getElem?_of_mem hc;have G:i<L:=by have:=(aa.1 K).1;omega
  rw[bU G,List.getElem?_drop]at K;obtain⟨c',h1,h2⟩:=W i G;rw[h1]at K;cases K;exact h2
 replace z:=aU z;go_upto_region 6 with(first
  |(go_at_call 85;refine(KY h3 M N E W F).mono ?_;rintro e w4 ⟨v,rfl,A,ho⟩;replace f:=iQ f A.put (by omega);replace d:=iQ d A.put (by omega))
  |(go_at_call 84;go_loud (refine(KZ w4 w3 v ((R.drop p).take L) (by rw[Q];exact ho) (by omega) (by omega) z.out).mono ?_;rintro e Y ⟨rfl,C⟩;replace f:=f.below C f.lt;replace d:=d.below C d.lt;have S:=(hM.on A).below C;have Z:=d.cell 1;have q2:=d.free 1)))
 have hC:=fp.setCell Y (B+1,1) (runesBytes ((R.drop p).take L));replace d:=d.put 1 (runesBytes ((R.drop p).take L));replace f:=f.dA hC (by simp);have T:=S.iD h (by rw[<-y.out];exact hC.below (B:=B) (by simp));(try simp only[fK,rm,ef]at d);generalize Y.setCell (B+1,1) (runesBytes ((R.drop p).take L))=w6 at*;go_step3
 have Z:=d.cell 4;have q2:=d.free 4;go_upto_region 7 with fail
 have hC:=fp.setCell w6 (B+1,4) false;replace d:=d.put 4 false;replace f:=f.dA hC (by simp);have D:=T.iD h (by rw[<-y.out];exact hC.below (B:=B) (by simp));(try simp only[fK,rm,ef]at d);generalize w6.setCell (B+1,4) false=w7 at*;have H:=iQ J D.put E;go_wp2_with (first
  |(go_at_call 37;refine(jM D.cur M (k:=0) F H).mono ?_;rintro e w8 ⟨rfl,q⟩;have I:=D.below (q.below _);replace f:=f.drawn q;replace d:=d.drawn q;have U:=H.drawn q;have a9:w8.cell? x=pt b:=U.cell 0))
 go_loopw [10] (fun s wr=>s=.int .i32 62/\wr=w8) (fun _ _=>0)
 case atStart=>exact⟨rfl,rfl⟩
 case round=>
  obtain⟨rfl,rfl⟩:=hrel;go_wp2_with (first|(go_at_call 87;refine(Aa 62 (by omega) _).mono ?_;rintro e w9 ⟨rfl,rfl⟩)|(go_at_call 41;refine(mh I.cur M F).mono ?_;rintro e em ⟨rfl,j⟩;replace f:=iQ f j.put (by omega);replace d:=iQ d j.put (by omega);have r:=I.on j))
  go_step3
  refine⟨rfl,?_⟩;by_cases hk:g=3
  .subst hk;have Z:=d.cell 1;go_upto_region 28 with fail
   go_wp2_with (refine aX 97 rfl ?_)
   refine⟨dK (#[zY,(runesBytes ((R.drop p).take L)),eQ,zn,false]) rfl rfl rfl rfl f rfl (by kernel_rfl) (by simp[Value.oneCell']) ?_⟩;intro V l m;have n:=r.iD h (by rw[<-y.out];exact m.below (B:=B) (Nat.le_refl _));go_wp2_with fail
   (try rw[Exit.noGoto_ret])
   refine ej (jU 5 4 97 B rfl true rfl rfl l _ Tryz.underlying97 rfl (by kernel_rfl)) rfl ?_;exact⟨rfl,n⟩
  .have e3:(g==3)=false:=by simpa using hk
   go_upto_region 29 with fail
   go_wp2_with (refine aX 97 rfl ?_)
   refine⟨eu rfl rfl rfl d Tryz.underlying97 rfl (by kernel_rfl) ?_⟩;go_wp2_with (refine aX 97 rfl ?_)
   refine⟨dK (#[g,(runesBytes ((R.drop p).take L)),eQ,zn,false]) rfl rfl rfl rfl f rfl (by kernel_rfl) (by simp[Value.oneCell']) ?_⟩;intro V l m;have n:=r.iD h (by rw[<-y.out];exact m.below (B:=B) (Nat.le_refl _));go_wp2_with fail
   (try rw[Exit.noGoto_ret])
   refine ej (jU 5 4 97 B rfl true rfl rfl l _ Tryz.underlying97 rfl (by kernel_rfl)) rfl ?_;exact⟨rfl,n⟩
end
end
section
def XW(P:Program)(c:Code)(l:Nat)(J:Act->World->Prop)(Q:Exit->Act->World->Prop):Exit->Act->World->Prop
 |.goto d,a,w=>(d=l/\J a w)\/∃b,findLabel c d=some b/\b.wp P (Exit.jump l J Q) a w
 |e,a,w=>Q e a w
section
variable{P:Program}{a:Act}{w:World}{Q:Exit->Act->World->Prop}
def EZ{c y:Code}(l:Nat)(J:Nat->Act->World->Prop)(K:findLabel c l=some y)
 (first:c.wp P (XW P c l (fun a w=>∃n,J n a w) Q) a w)
 (F:∀n a w,J n a w->y.wp P (XW P c l (fun v x=>∃m,m<n/\J m v x) Q) a w):(Code.scope c).wp P Q a w:=by
 intro b k z;have E:∀{A:Nat} {r:Code},findLabel c A=some r->gotoIn A (.inScope c::k)=some (.code r::.inScope c::k):=by
  intro A r h;simp[gotoIn,h]
 have G:∀n a w,J n a w->∃e v x,Q e v x/\Arrives P (lone (b.at a (.code y::.inScope c::k)) z w) b k z e v x:=by
  intro n;induction n using Nat.strongRecOn with
  |_ n ih=>
   intro a w S;have H:∀{r:Code} {L:Act} {M:World},r.wp P (Exit.jump l (fun v x=>∃m,m<n/\J m v x) Q) L M->∃e v x,Q e v x/\Arrives P (lone (b.at L (.code r::.inScope c::k)) z M) b k z e v x:=by
    intro r L M I;obtain⟨e,g,i,hq,d⟩:=I b (.inScope c::k) z;cases e with
    |normal=>exact⟨.normal,g,i,hq,Steps.trans d (.one yi)⟩
    |exit id=>exact⟨.exit id,g,i,hq,fun B C=>d B (by simp[exitTo,C])⟩
    |goto A=>
     obtain⟨rfl,m,D,u⟩:=hq;obtain⟨o,p,q,j,f⟩:=ih m D g i u;exact⟨o,p,q,j,.of_steps (d _ (E K)) f⟩
    |ret=>exact⟨_,g,i,hq,d⟩
    |panic N=>exact⟨_,g,i,hq,d⟩
    |outgrown=>exact⟨_,g,i,hq,d⟩
   obtain⟨e,g,i,hq,d⟩:=F n a w S b (.inScope c::k) z;cases e with
   |normal=>exact⟨.normal,g,i,hq,Steps.trans d (.one yi)⟩
   |exit id=>exact⟨.exit id,g,i,hq,fun B C=>d B (by simp[exitTo,C])⟩
   |goto A=>
    rcases hq with⟨rfl,m,D,u⟩|⟨r,I,O⟩
    .obtain⟨o,p,q,j,f⟩:=ih m D g i u;exact⟨o,p,q,j,.of_steps (d _ (E K)) f⟩
    .obtain⟨o,p,q,j,f⟩:=H O;exact⟨o,p,q,j,.of_steps (d _ (E I)) f⟩
   |ret=>exact⟨_,g,i,hq,d⟩
   |panic N=>exact⟨_,g,i,hq,d⟩
   |outgrown=>exact⟨_,g,i,hq,d⟩
 obtain⟨e,g,i,hq,d⟩:=first b (.inScope c::k) z
 cases e with
 |normal=>exact⟨.normal,g,i,hq,.head oI (Steps.trans d (.one yi))⟩
 |exit id=>exact⟨.exit id,g,i,hq,fun B C=>.head oI (d B (by simp[exitTo,C]))⟩
 |goto A=>
  rcases hq with⟨rfl,n,u⟩|⟨r,I,O⟩
  .obtain⟨o,p,q,j,f⟩:=G n g i u;exact⟨o,p,q,j,.of_steps (.head oI (d _ (E K))) f⟩
  .have R:∃e v x,Q e v x/\Arrives P (lone (b.at g (.code r::.inScope c::k)) z i) b k z e v x:=by
    obtain⟨e,s,t,hq,d⟩:=O b (.inScope c::k) z;cases e with
    |normal=>exact⟨.normal,s,t,hq,Steps.trans d (.one yi)⟩
    |exit id=>exact⟨.exit id,s,t,hq,fun B C=>d B (by simp[exitTo,C])⟩
    |goto A=>
     obtain⟨rfl,m,u⟩:=hq;obtain⟨o,p,q,j,f⟩:=G m s t u;exact⟨o,p,q,j,.of_steps (d _ (E K)) f⟩
    |ret=>exact⟨_,s,t,hq,d⟩
    |panic N=>exact⟨_,s,t,hq,d⟩
    |outgrown=>exact⟨_,s,t,hq,d⟩
   obtain⟨o,p,q,j,f⟩:=R;exact⟨o,p,q,j,.of_steps (.head oI (d _ (E I))) f⟩
 |ret=>exact⟨_,g,i,hq,.of_steps (.one oI) d⟩
 |panic N=>exact⟨_,g,i,hq,.of_steps (.one oI) d⟩
 |outgrown=>exact⟨_,g,i,hq,.of_steps (.one oI) d⟩
def SK{c b:Code}{J d:Act->World->Prop}(h:b.wp P (XW P c l J Q) a w)(f:∀a w,J a w->d a w):b.wp P (XW P c l d Q) a w:=by
 refine ma h ?_;intro e n o hq;cases e with
 |goto p=>
  rcases hq with⟨g,i⟩|⟨r,j,k⟩
  .exact .inl ⟨g,f _ _ i⟩
  .refine .inr ⟨r,j,wp_mono k ?_⟩;intro e q s hq;cases e with
   |goto t=>exact⟨hq.1,f _ _ hq.2⟩
   |normal=>exact hq
   |exit id=>exact hq
   |ret=>exact hq
   |panic m=>exact hq
   |outgrown=>exact hq
 |normal=>exact hq
 |exit id=>exact hq
 |ret=>exact hq
 |panic m=>exact hq
 |outgrown=>exact hq
def BB{c b:Code}(l:Nat)(J:Nat->Act->World->Prop)(e:findLabel c l=some (Code.skip.seq b))
 (d:∀n a w,J n a w->b.wp P (XW P c l (fun f g=>∃m,m<n/\J m f g) Q) a w)
 (first:(∀n a w,J n a w->b.wp P (XW P c l (fun a w=>∃n,J n a w) Q) a w)->c.wp P (XW P c l (fun a w=>∃n,J n a w) Q) a w):(Code.scope c).wp P Q a w:=by
 refine EZ l J e (first fun n a w h=>SK (d n a w h) fun a w ⟨m,_,i⟩=>⟨m,i⟩) ?_;intro n a w h;exact wp_seq (wp_skip (d n a w h))
def Wo{c:Code}{J:Act->World->Prop}:XW P c l J Q .ret a w=Q .ret a w:=rfl
end
end
def SM(w:World){cap:Nat}(z:kA w g 0 R)(A:g<w.heap.size)(hR:0<R.length)(G:R.length<=1000000):
 Calls tp 33 #[(g,R.length,cap)] w fun e r=>∃b a c,e=.returned (.pointer (some ⟨b,0,none⟩))/\iB r b 174 a 0 R c 0/\Below w w r/\w.heap.size<=b/\w.heap.size<=a:=by
 obtain⟨B,l,m,n,o⟩:=info_parts qS;have d:∀j u,(R.map (Value.int .i32))[j]? =some u->w.cell? ((g:Addr).add j)=some u:=by
  intro j u s;rw[ai]at s;obtain⟨x,C,rfl⟩:=Option.map_eq_some_iff.1 s;rw[Addr.add_mid];exact z.at_ j x C
 replace d:=aU d;go_enter Tryz.func33,Tryz.ntmps33
 go_wp2_with (refine cR _ _ _ _ rfl ?_)
 refine⟨?_⟩;refine(eC _ rfl (.const zn) (.tmp 3) 54 rfl w 21 B (.int .i32 0) 1 4 gj l m n o rfl (by decide) zn 0 [] rfl (dl _ _ _ _) g R.length cap (R.map (Value.int .i32)) rfl (by simp) d.out (by simp[Value.oneCell']) (by unfold maxLen;omega) (by omega) (ae _) ?_);intro H t f p _;rw[bc,dt]at f;have h:=eo (dl w w 21 1) p (Nat.le_refl _);obtain⟨q,D,rfl,v,E,y⟩:=dL f hR;have k:kA t q 0 R:=⟨fun i c l=>by
  have:=f.cells (g:=q) rfl i (.int .i32 c) (by simp[l]);rwa[Addr.add_mid]at this⟩
 have F:=h.size;go_wp2_with fail
 go_ret
 refine⟨t.heap.size,rfl,q,⟨D,aE.new _ _ _,k.keep (heap_alloc_old _ _ (by omega)),by omega,by simp;omega⟩,h.alloc (by omega) _,by omega,by omega⟩
def rX(s:ByteArray):List Int:=(s.data.toList.map UInt8.toNat).map Int.ofNat
def kB(x:Tk):List Int:=if x.kind=1 then rX x.text else if x.kind=2 then 60::(rX x.name++[62])else 60::47::(rX x.name++[62])
def Small(s:ByteArray):Prop:=0<s.size/\∀u∈s.data.toList,97<=u.toNat/\u.toNat<=122
def aaN(h:c<128):Utf8.encode (c:Int)=⟨#[UInt8.ofNat c]⟩:=by
 have a:Utf8.valid (c:Int)=true:=by simp[Utf8.valid];omega
 simp only[Utf8.encode,a,if_true,cJ];rw[aS (by omega)]
def SN(l:List Int):∀s:ByteArray,l.foldl (fun r n=>r++Utf8.encode n) s=s++runesBytes l:=by
 induction l with
 |nil=>intro s;rw[show runesBytes []=ByteArray.empty from rfl,ByteArray.append_empty];rfl
 |cons r l ih=>
  intro s;have a:=ih (Utf8.encode r);rw[lL,ih];show _=s++List.foldl (fun r n=>r++Utf8.encode n) ByteArray.empty (r::l);rw[lL,wQ,a,ByteArray.append_assoc]
def SO(r:Int)(l:List Int):runesBytes (r::l)=Utf8.encode r++runesBytes l:=by
 have:=SN l (ByteArray.empty++Utf8.encode r);rw[wQ]at this;rw[<-this];unfold runesBytes;rw[lL,wQ]
def CM:∀(s:List Nat),(∀u∈s,u<128)->(runesBytes (s.map Int.ofNat)).data.toList=s.map UInt8.ofNat
 |[],_=>rfl
 |a::s,h=>by
  have ih:=CM s fun u b=>h u (List.mem_cons_of_mem _ b);have c:=h a List.mem_cons_self;rw[bV,SO,nB,gN,ih,show(Int.ofNat a)=(a:Int)from rfl,aaN c];rfl
def x7(s:ByteArray):(rX s).length=s.size:=by
 unfold rX;rw[aj,aj];rfl
def SP(h:∀u∈s.data.toList,u.toNat<128):runesBytes (rX s)=s:=by
 have b:=CM (s.data.toList.map UInt8.toNat) (by
  intro u c;obtain⟨v,e,rfl⟩:=List.mem_map.1 c;exact h v e)
 have f:(s.data.toList.map UInt8.toNat).map UInt8.ofNat=s.data.toList:=by
  rw[fj]
  conv=>rhs;rw[<-List.map_id s.data.toList]
  refine fa ?_;intro u _;simp
 rw[f]at b;have a:(runesBytes (rX s)).data=s.data:=Array.toList_inj.1 b;cases g:runesBytes (rX s)with
 |mk d=>rw[g]at a;cases s;simp at a;rw[a]
def rY(h:Small s):∀c∈rX s,97<=c/\c<=122:=by
 intro c a;simp only[rX,fj,aL,Function.comp]at a;obtain⟨u,b,rfl⟩:=a;have:=h.2 u b;simp only[fB];omega
def tF(h:Small s):runesBytes (rX s)=s:=SP (fun u a=>by have:=h.2 u a;omega)
def SQ{a X:List Int}{p:Nat}(h:R.drop p=a++62::X)(d:∀c∈a,97<=c/\c<=122):
 (∀i,i<a.length->∃c,R[p+i]? =some c/\(97<=c/\c<=122))/\R[p+a.length]? =some 62/\(R.drop p).take a.length=a/\R.drop (p+a.length+1)=X:=by
 refine⟨?_,?_,?_,?_⟩
 .intro i b;refine⟨a[i],?_,d _ (jn b)⟩;rw[<-bd,h,List.getElem?_append_left b,List.getElem?_eq_getElem b]
 .rw[<-bd,h,List.getElem?_append_right (ae _)];simp
 .rw[h,List.take_left]
 .rw[cZ,<-ir,h,<-List.drop_drop,AY];rfl
def E0{X:List Int}{p:Nat}{c:Int}(h:R.drop p=c::X):R[p]? =some c/\R.drop (p+1)=X:=by
 refine⟨?_,?_⟩
 .have:=bd (xs:=R) (i:=p) (j:=0);rw[h]at this;simpa using this.symm
 .rw[<-ir,h];rfl
def aaO(s:ByteArray):Prop:=(s.toList==[115,116,121,108,101])=false/\(s.toList==[115,99,114,105,112,116])=false
def xg(x:Tk):Prop:=Small x.name/\aaO x.name/\x.text=eQ/\(x.kind=2\/x.kind=3)
def aaP(x:Tk):Prop:=Small x.text/\x.name=eQ/\x.kind=1
def Good:List Tk->Prop
 |[]=>True
 |x::M=>(xg x\/aaP x/\∃y N,M=y::N/\xg y)/\Good M
def CN:∀{D M:List Tk},Good (D++M)->Good M
 |[],_,h=>h
 |_::D,_,h=>CN (D:=D) h.2
def nH(w:World)(b:Nat)(s:ByteArray)(pos:Nat):Prop:=w.heap[b]? =some (.stringIter s pos)
def ny(w:World)(b:Nat)(s:ByteArray)(pos:Nat):World:={w with heap:=w.heap.setIfInBounds b (.stringIter s pos)}
def Ps{p':Nat}(h:nH w b s pos):nH (ny w b s p') b s p':=by
 have a:=(Array.getElem?_eq_some_iff.1 h).1;simp[nH,ny,dc,a]
def Ix(w:World)(b:Nat)(s:ByteArray)(p:Nat)(a:k≠b):(ny w b s p).heap[k]? =w.heap[k]? :=by
 simp[ny,dc,Ne.symm a]
def K3(w:World)(b:Nat)(s:ByteArray)(p:Nat)(a:B<=b):Below B w (ny w b s p):=
 ⟨rfl,rfl,rfl,by simp[ny],fun k c=>Ix w b s p (by omega)⟩
def run_next_at(a:nH w b s pos)(h:pos<s.size)(c:TypeId):
 (Instr.next (pt b) true c).run P w=.ok (.tuple #[true,pos,.int .i32 (Utf8.decode s pos).1]) (ny w b s (pos+(Utf8.decode s pos).2)):=by
 unfold nH at a;simp only[Instr.next,getObj,setObj,aB,Sem.run,a,Result.andThen,h,if_true];simp[goInt,ny,Sem.run]
def BC(a:nH w b s pos)(h:¬pos<s.size)(c:TypeId):
 (Instr.next (pt b) true c).run P w=.ok (.tuple #[false]) w:=by
 unfold nH at a;simp[Instr.next,getObj,Sem.run,a,h]
def E2(s:ByteArray)(i:Nat)(h:(s.get! i).toNat<128):Utf8.decode s i=((s.get! i).toNat,1):=by
 unfold Utf8.decode;simp[h]
def Iy(b l cap:Nat)(a:List UInt8)(w:World)(hl:a.length<=60000)(S:∀u∈a,0<u.toNat/\u.toNat<128/\u.toNat≠13/\u.toNat≠10)(T:∀j (hj:j<a.length),w.cell? (((b,l):Addr).add j)=some (.int .u8 (a[j].toNat:Int))):
 Calls tp 17 #[(b,l,a.length,cap)] w fun e z=>∃v,e=tQ #[v,zQ]/\Below w w z/\z.ownsRow w 21 1 v a.length (a.map fun u=>.int .i32 (u.toNat:Int)):=by
 obtain⟨U,V,A,B,C⟩:=info_parts qS;have d1:decide ((65536:Int)<(a.length:Int))=false:=aA (by omega);have W:=run_convert_bytes_back (P:=tp) w 32 9 5 (b,l) cap a Tryz.underlying32 sw km T;have x:=run_range_string (P:=tp) w 9 ⟨a.toArray⟩ Tryz.underlying9;have X:nH (w.iter ⟨a.toArray⟩ 0) w ⟨a.toArray⟩ 0:=by
  have:=World.iter_heap w ⟨a.toArray⟩ 0;simpa[nH]using this
 have Y:Below w w (w.iter ⟨a.toArray⟩ 0):=(Below.refl _ _).alloc (ae _) _;go_enter Tryz.func17,Tryz.ntmps17
 go_wp2_with fail
 have O:w.heap.size+1<=(w.iter ⟨a.toArray⟩ 0).heap.size:=by simp[World.iter]
 generalize w.iter ⟨a.toArray⟩ 0=w1 at*;go_loopg [4,5] a.length (fun g v Z wr=>∃(k:Nat) (f:Int),g=a.length-k/\k<=a.length/\Z=.int .i32 f/\nH wr w ⟨a.toArray⟩ k/\wr.ownsRow (w.heap.size+1) 21 1 v k ((a.take k).map fun u=>Value.int .i32 (u.toNat:Int))/\Below w w wr/\w.heap.size+1<=wr.heap.size)
 case atStart=>exact⟨0,0,rfl,Nat.zero_le _,rfl,X,dl _ _ _ _,Y,by omega⟩
 case round=>
  obtain⟨k,f,rfl,hk,rfl,m,p,q,am⟩:=hrel;by_cases d:k<a.length
  .have D:k<(⟨a.toArray⟩:ByteArray).size:=d;obtain⟨u,E⟩:∃u,a[k]=u:=⟨_,rfl⟩;have y:(⟨a.toArray⟩:ByteArray).get! k=u:=by
    rw[<-E];show(a.toArray)[k]! =_;simp[d]
   have F:=S u (by rw[<-E];exact jn d);have i:=E2 ⟨a.toArray⟩ k (by rw[y];exact F.2.1);rw[y]at i;have r:∀n,(Instr.next (pt w) true n).run tp wr=.ok (.tuple #[true,k,.int .i32 (u.toNat:Int)]) (ny wr w ⟨a.toArray⟩ (k+1)):=fun n=>by
    have:=run_next_at (P:=tp) m D n;rw[i]at this;exact this
   have G:=Ps (p':=k+1) m;have H:Below w w (ny wr w ⟨a.toArray⟩ (k+1)):=q.trans (K3 _ _ _ _ (Nat.le_refl _));have Q:wr.heap.size<=(ny wr w ⟨a.toArray⟩ (k+1)).heap.size:=by simp[ny]
   obtain⟨A2,q2,rfl,-⟩:=aV p;have I:=aZ (w':=ny wr w ⟨a.toArray⟩ (k+1)) p (fun g y _=>Ix _ _ _ _ (by have:=(p.lt g y).1;omega));generalize ny wr w ⟨a.toArray⟩ (k+1)=R at*;obtain⟨c,s⟩:∃c:Int,(u.toNat:Int)=c:=⟨_,rfl⟩;have e1:(c==10)=false:=by simp;omega
   have e2:(c==13)=false:=by simp;omega
   have e3:(c==0)=false:=by simp;omega
   have t:=I.alloc (.cells #[.int .i32 c] 21);have J:=df (aE.new R 21 #[.int .i32 c]) (news:=[.int .i32 c]) rfl;rw[s]at r;go_upto_region 8 with fail
   go_wp2_with (refine cR _ _ _ _ rfl ?_)
   refine⟨?_⟩;refine(eC _ rfl (.tmp 17) (.tmp 19) 54 rfl (w.heap.size+1) 21 U (.int .i32 0) 1 4 gj V A B C rfl (by decide) (.slice A2 k q2) _ _ rfl t R 1 1 [.int .i32 c] rfl rfl J (by simp[Value.oneCell']) (by unfold maxLen;omega) (by omega) (by simp;omega) ?_);intro v' w3 K L _;have o:=((Below.refl _ _).alloc (by omega) _).trans (eo t L (by simp;omega));go_wp2_with fail
   go_roundg (a.length-(k+1))
   case measure=>omega
   case rel=>
    refine⟨k+1,c,rfl,d,rfl,?_,?_,H.trans (o.mono (by omega)),by have:=o.size;omega⟩
    .exact(o.block _ (by omega)).trans G
    .rw[bJ,af d,E];simp only[Fy,b9,bV,wP,s];exact K
  .have M:k=a.length:=by omega
   subst M;have r:∀n,(Instr.next (pt w) true n).run tp wr=.ok (.tuple #[false]) wr:=fun n=>BC (P:=tp) m (by show¬a.length<a.length;omega) n;go_wp2_with fail
   go_ret2
   rw[bL]at p;refine⟨_,rfl,q,p.1,?_⟩;rcases p.2 with h|⟨g,cp,N,h1,h2,h3⟩
   .exact .inl h
   .exact .inr ⟨g,cp,N,h1,by omega,h3⟩
def Ae(a d:Int)(l:List Int)(A:Option Addr)(c:Nat)(w:World)(z:0<=a)(B:a<=16777216)(C:0<=d)(D:d<=16777216)(E:l.length<=256)(n:∀x∈l,0<=x/\x<=65536)(o:gB w w A l):
 Calls tp 16 #[.agg #[a,d,.slice A l.length c]] w fun e p=>e=zQ/\Below w w p:=by
 have g:aE (w.alloc (.cells #[a,d,.slice A l.length c] 25)) w 25 #[a,d,.slice A l.length c]:=aE.new _ _ _;have h:Below w w (w.alloc (.cells #[a,d,.slice A l.length c] 25)):=(Below.refl _ _).alloc (ae _) _;have d1:decide (a<0)=false:=aA (by omega);have d2:decide (67108864<a)=false:=aA (by omega);have d3:decide (d<0)=false:=aA (by omega);have d4:decide (67108864<d)=false:=aA (by omega);have d5:decide ((256:Int)<(l.length:Int))=false:=aA (by omega);go_enter Tryz.func16,Tryz.ntmps16
 go_upto_region 1 with fail
 refine bM (fun Z=>aE Z w 25 #[a,d,.slice A l.length c]/\Below w w Z) ⟨g,h⟩ ?_;clear g h;rintro q ⟨g,h⟩;have F:=g.cell 0;have G:=g.cell 1;have H:=g.cell 2;go_wp2_with fail
 go_loopw [32] (fun s wr=>∃k:Nat,k<=l.length/\s=k/\wr=q) (fun i _=>l.length-(intOf i).toNat)
 case atStart=>exact⟨0,aM _,rfl,rfl⟩
 case round=>
  obtain⟨k,I,rfl,rfl⟩:=hrel;by_cases f:k<l.length
  .have r:=lJ k l.length (by omega);obtain⟨b,t,x,rfl,u,v,j⟩:=o.at_ f;have y:=(h.cell u).trans v;have m:=n (l.getD k 0) (by rw[ah,af f];exact jn f);rw[j.out]at m;have J:decide (x<0)=false:=aA (by omega);have K:decide (65536<x)=false:=aA (by omega);go_wp2_with fail
   go_roundw
   case rel=>exact⟨k+1,by omega,by go_num,trivial⟩
   case measure=>simp[intOf];omega
  .have r:=Di k l.length (by omega);go_wp2_with fail
   go_ret
   exact⟨rfl,h⟩
