/- TopCells: a table of words has as many columns as its longest row has cells, each as wide as its widest word. The card is given whole (Tie). Conditions: none beyond the statement's. -/
import Derived.Test.YtkkiefcapbddkaaGreatDoorPb
import Derived.Test.YtkkiefcapbddkaaGreatDoorPc
import Derived.Test.YtkkiefcapbddkaaGreatDoorPh
set_option linter.all false
set_option maxRecDepth 1000000
set_option maxHeartbeats 0
namespace Go.Proofs.YtkkiefcapbddkaaGreatDoor.topCells
open Go.ChangeShapes Go.WideShapes Go.ChangeAt Go.RowKit Mem Opn
theorem T9(H:Type)(i:TypeId×Value->H)(W:World)(f:Nat)(args:Array Value)(u D:List (DataW H))(c:List MemPlace)
 (a:∀(j:Nat) t v,Tryz.f5.params[j]? =some t->args[j]? =some v->Value.okWide tp W .any f t v)
 (E:DataW.Whole i tp Tryz.f5.params.toList Rows.topCellsSpec.vars false W args.toList u D c)
 (g:(DataW.weightsEach tp (Tryz.f5.params.toList++Rows.topCellsSpec.plain.varTypes tp) (u++D)).all (·<=reachBytes)=true)(J:laidMetH tp Rows.topCellsRow.laid W):
 Calls tp 5 args W fun e F=>∃v,e=.returned v/\Rows.topCellsSpec.post i tp Tryz.f5 false true false false W args v F:=by
 have l:=g;clear g;have b:∀(j:Nat) t v,Tryz.f5.params[j]? =some t->args[j]? =some v->Value.okWide tp W .any f t v:=a;have w:=E;obtain⟨p,q,o,K,rfl,L,M⟩:=E;have G:DataW.TrodAll i tp W 0 (fun _=>true) true Tryz.f5.params.toList args.toList u p:=o;rw[Tryz.params5]at G b l;obtain⟨I,N,d0,O,P,q0,y,rfl,rfl,z,Q⟩:=trodAll_cons G;obtain⟨v1,R,d1,S,T,q1,rfl,rfl,rfl,A,U⟩:=trodAll_cons Q;obtain⟨rfl,rfl,rfl⟩:=trodAll_nil U;obtain rfl:args=#[I,v1]:=by cases args;simp_all
 obtain⟨rfl,rfl⟩:=trodVars_none K;have s:∀x∈P,x.block<W.heap.size:=by obtain⟨m,B⟩:=z;exact DataW.trod_lt m _ _ _ B
 have C:∀x∈T,x.block<W.heap.size:=by obtain⟨m,B⟩:=A;exact DataW.trod_lt m _ _ _ B
 obtain⟨V,X,Y,rfl,d⟩:=P9 (okWide_slice Tryz.underlying42 (b 0 42 I rfl rfl)) z s (fun n Z=>by simpa using aQ.1 l n (DataW.weights_mem_each (j:=0) (t:=42) rfl rfl n Z));obtain⟨a1,rfl,_,_,w1⟩:=open_int Tryz.underlying3 (b 1 3 v1 rfl rfl) A;clear o a;refine(Go.Abs.LG X V Y a1 W d.ex (T7 J) (by have:=d.cap;have:=d.few;omega) (fun r hr=>(d.ok r hr).1)).mono fun e F ⟨he,k⟩=>?_;subst he;exact⟨_,rfl,_,_,_,[],_,[],w,trodAll_mk1 (shut_bool Tryz.underlying4 _),(trodAll_cons_mk (Below.trod laidOut (by kernel_rfl) (Jp (by kernel_rfl)) z k s) (trodAll_cons_mk (Below.trod laidOut (by kernel_rfl) (Jp (by kernel_rfl)) A k C) trodAll_mk0)),rfl,k.frame _,fun h=>by cases h⟩
theorem lifted(d:Os)(b:d.Started)(H:Type)(a:TypeId×Value->H)(F:Stop.Interp):
 ReturnsInHanded {} Tryz.checked d 5 .any ((OpenSpec.ofChange Rows.topCellsSpec).preRow a tp Tryz.f5 Rows.topCellsRow.domain false Rows.topCellsRow.laid) (((OpenSpec.ofChange Rows.topCellsSpec).at F).post a tp Tryz.f5 false true false false):=by
 obtain⟨x,g,i⟩:=reads d a;refine returnsInHanded_of_row (C:=Tryz.checked) (s:=OpenSpec.ofChange Rows.topCellsSpec) own b ac8 adC
  (
   witness_row_atRef (enc:=a) (C:=Tryz.checked) false (mm d) #[zn,zQ] rfl (acM d) (acN d) (abg d)
   (OpenSpec.preRow_of_cond 8 i (by kernel_rfl) (fun k j=>by cases j) (by kernel_rfl) (T8 d))) ?_
 intro W e args l m c f n _ _ h o _ _;exact T9 H a W e args l m c f n h o
theorem said:Rows.TopCellsSaid:=
 OpenClaim.holds_of_cond 5 Tryz.f5 rfl rfl rfl rfl rfl rfl rfl ⟨rfl,rfl,rfl,rfl,rfl⟩ rfl rfl rfl rfl rfl Z9 adC closed aab aaa
  (fun c a H b _ F=>by rw[OpenClaim.pre_eq_preRow];exact lifted c a H b F)
theorem plain(f:FuncId)(fn:Func)(c:Tryz.pinned.checked.prog.funcNamed "casement/casementtop.TopCells" =some f)(a:Tryz.pinned.checked.prog.funcs[f]? =some fn):
 false=Tryz.pinned.checked.prog.looks []/\∀(j:Nat) t,fn.params[j]? =some t->Tryz.pinned.checked.prog.wantsStandIn t=false:=by
 obtain rfl:f=5:=Option.some.inj ((show Tryz.prog.funcNamed "casement/casementtop.TopCells" =some 5 by kernel_rfl).symm.trans c)|>.symm;obtain rfl:fn=Tryz.f5:=(xn (adC.symm.trans a)).symm;refine⟨Xt,fun j t b=>?_⟩;rw[Tryz.params5]at b;obtain rfl|rfl:t=42\/t=3:=by simpa using Array.mem_of_getElem? b
 .exact abf
 .exact acL
theorem proved:Rows.TopCellsCardSaid:=
 Claim7.holds_tied_plain_at .later [] _ _ _ _ said (fun _ h=>by cases h) acI (fun _ h=>by cases h) topCells_row_tie rfl ⟨rfl,rfl⟩ acJ rfl plain acK
#print axioms proved
