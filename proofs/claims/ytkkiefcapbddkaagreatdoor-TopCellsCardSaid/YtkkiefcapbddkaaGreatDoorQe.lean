/- part of topCells.proved -/
import Derived.Test.YtkkiefcapbddkaaGreatDoorQd
import Derived.Test.YtkkiefcapbddkaaGreatDoorProg
set_option linter.all false
set_option maxRecDepth 1000000
set_option maxHeartbeats 0
noncomputable section
namespace Go.Abs
open Go.RowKit Go.Proofs
variable{f:FuncId}{l:List (FuncId×(List V->Option V))}{args:List V}{k:Nat}{y:V}
section
def MC:Value->Nat
 |.string s=>s.size
 |_=>0
def zh(s:ByteArray)(v:Hid (∀b∈s.data.toList,b.toNat≠38))(x:Hid (s.data.toList≠[]))(E:s.size<=140737488355328)(w:World):
 Calls tp 42 #[s] w fun e y=>e=s/\Below w w y:=by
 have k:Hid (Lib.IsBuilder 178 5 w w (Lib.byteCells []) (w.alloc (.cells #[.pointer none,zn] 178))):=Lib.fresh_isBuilder 178 5 w;go_enter Tryz.func42,Tryz.ntmps42
 go_wp2_with fail
 go_loopw [0] (fun z wr=>∃(t:ByteArray) (a:List UInt8),z=t/\Hid (a++t.data.toList=s.data.toList)/\Hid (Lib.IsBuilder 178 5 w w (Lib.byteCells a) wr)/\Below w w wr) (fun i _=>MC i)
 case atStart=>exact⟨s,[],rfl,rfl,k,(Below.refl _ _).alloc (ae _) _⟩
 case round=>
  obtain⟨t,a,rfl,j,r,m⟩:=hrel;have n:=m.size;by_cases o:t.data.toList=[]
  .have:t=ByteArray.empty:=by
    cases t with|mk d=>cases d with|mk l=>cases o;rfl
   subst this;have g:a=s.data.toList:=by simpa using j.out
   go_wp2_with (go_at_call 83;refine(Ql w w a _ r.out (by rw[g];exact x.out)).mono ?_)
   rintro e A ⟨rfl,f⟩
   go_wp2
   go_ret
   exact⟨rfl,m.trans f⟩
  .have B:0<t.size:=by
    have:t.size=t.data.toList.length:=rfl;rw[this];exact BH.2 o
   have F:t.toList.isEmpty=false:=by rw[js];cases hq:t.data.toList with|nil=>exact absurd hq o|cons _ _=>rfl
   have c:t.data.toList=t[0]::(t.extract 1 t.size).data.toList:=by
    have C:(t.extract 1 t.size).data.toList=t.data.toList.drop 1:=by
     rw[aac,abh];simp only[List.extract];rw[aad];rw[cS];exact ae _
    have D:t.data.toList=t.data.toList[0]'B::t.data.toList.drop 1:=by
     rw[List.getElem_cons_drop,Ue]
    rw[C];exact D
   have h:t[0]∈s.data.toList:=by rw[<-j.out,c];simp
   have G:((t[0].toNat:Int)==38)=false:=by
    have:=v.out _ h;simp;omega
   have u:a.length+t.size=s.size:=by
    have:=dY List.length j.out;rw[aO]at this;exact this
   have p:Hid ((a++[t[0]])++(t.extract 1 t.size).data.toList=s.data.toList):=by
    show _=_;rw[<-j.out,c];simp
   go_wp2_with (go_at_call 82;refine(X8 w w (Lib.byteCells a) _ _ r.out (by rw[adj];omega) n).mono ?_)
   rintro e A ⟨rfl,q,f⟩
   go_wp2
   go_roundw
   case rel=>exact⟨t.extract 1 t.size,a++[t[0]],rfl,p,.inr (by simpa[Lib.byteCells]using q),m.trans f⟩
   case measure=>show MC _<MC _;simp[MC];omega
variable[de]
def zi(args:List V):Option V:=match args with
 |[.d (.s s)]=>ob (YL (.c 38) s) fun n=>Bool.rec none (Bool.rec (Bool.rec none (some (.d (.s s))) (Nat.ble (qg s) 100000)) none (Nat.beq (qg s) 0)) (AZ n (Int.negSucc 0))
 |_=>none
def Ca{u:UInt8}:∀{l:List UInt8},Lib.indexByte l u= -1->∀b∈l,b≠u
 |[],_,b,hb=>by cases hb
 |a::l,h,b,hb=>by
  unfold Lib.indexByte at h;by_cases e:a=u
  .subst e;simp at h
  .have c:(a==u)=false:=by simpa using e
   rw[c]at h;simp only[ed,mU]at h;have d:Lib.indexByte l u= -1:=by
    by_cases q:(Lib.indexByte l u== -1)=true
    .simpa using q
    .rw[aI q]at h;have:=Lib.indexByte_ge l u;simp at q;omega
   rcases aw.1 hb with rfl|hb
   .exact e
   .exact Ca d b hb
def Hh:kS tp 42 zi:=by
 intro args r h;unfold zi at h;split at h
 .next s=>
  obtain⟨n,t,h⟩:=bK h;obtain⟨k,h⟩:=mD h;have k:=ze k;cases i:Nat.beq (qg s) 0 with
  |true=>rw[i]at h;cases h
  |false=>
   rw[i]at h;obtain⟨l,h⟩:=mD (show(Bool.rec none (some (.d (.s s))) (Nat.ble (qg s) 100000):Option V)=some r from h);have l:=Nat.le_of_ble_eq_true l;rw[ni]at l;cases h;refine .inl ⟨fun args w=>rfl,?_⟩;refine PC.nU (args:=[.s s]) (r:=.s s) fun F w u y a m=>?_
   match u,a with
   |[v],_=>
    have z:=m 0 _ _ rfl rfl;cases z with
    |s _ b j=>
     have f:Lib.indexByte b.data.toList 38= -1:=by
      rcases xY (.c 38) 38 rfl s b.data.toList 0 n j t with⟨q,o⟩|⟨q,o⟩
      .exact q
      .rw[k]at o;simp at o;omega
     have A:b.data.toList≠[]:=by
      intro e;have:=j.len;rw[e]at this;rw[ni,<-this]at i;simp at i
     have p:b.size<=140737488355328:=by
      have B:b.size=b.data.toList.length:=rfl;rw[B,j.len];omega
     .refine(zh b (fun x C=>?_) A p w).mono ?_
      .have:=Ca f x C;intro e;exact this (xo.1 e)
      .rintro e D ⟨rfl,g⟩;exact⟨_,rfl,g,F,fun _ _=>rfl,fun b p=>y b (Nat.le_trans g.size p),.s _ _ j⟩
 .cases h
end
section
def RE(s:ByteArray)(c:Int)(w:World):Calls tp 79 #[s,.int .u8 c] w fun e a=>e=.returned (Lib.indexByte s.data.toList c.toNat.toUInt8)/\w=a:=by
 have b:(callFunc 247 #[s,.int .u8 c]).run tp w=.ok (.value (Lib.indexByte s.data.toList c.toNat.toUInt8)) w:=by
  rw[FA Tryz.func247 (by kernel_rfl) (by kernel_rfl) (by kernel_rfl) (e:=Extern.BytealgIndexByte.indexByte) (by kernel_rfl),abm];rfl
 go_enter Tryz.func79,Tryz.ntmps79
 go_wp2
 go_ret
 exact⟨rfl,rfl⟩
def RF(s:ByteArray)(r:Int)(b:0<=r)(c:r<128)(w:World):Calls tp 258 #[s,.int .i32 r] w fun e a=>e=.returned (Lib.indexByte s.data.toList r.toNat.toUInt8)/\w=a:=by
 have d:IntKind.u8.wrap r=r:=by
  unfold IntKind.wrap;simp only[IntKind.bits,IntKind.signed,nL,Bool.false_and];simp;omega
 go_enter Tryz.func258,Tryz.ntmps258
 go_wp2_with (go_at_call 79;refine(RE _ _ _).mono ?_;rintro e a ⟨rfl,rfl⟩)
 go_ret
 exact⟨rfl,rfl⟩
def RG(s:ByteArray)(r:Int)(b:0<=r)(c:r<128)(w:World):Calls tp 181 #[s,.int .i32 r] w fun e a=>e=.returned (.bool (decide (0<=Lib.indexByte s.data.toList r.toNat.toUInt8)))/\w=a:=by
 go_enter Tryz.func181,Tryz.ntmps181
 go_wp2_with (go_at_call 258;refine(RF _ _ b c _).mono ?_;rintro e a ⟨rfl,rfl⟩)
 go_ret
 exact⟨rfl,rfl⟩
variable[de]
def Kk(args:List V):Option V:=match args with
 |[.d (.s s),.d c]=>ob (BP c) fun c=>ob (YL c s) fun n=>some (.d (.b (lP 0 n)))
 |_=>none
def Ou:kS tp 181 Kk:=by
 intro args r h;unfold Kk at h;split at h
 .next s c=>
  obtain⟨u,i,h⟩:=bK h;obtain⟨n,j,h⟩:=bK h;cases h;refine .inl ⟨fun args w=>rfl,?_⟩;refine PC.nU (args:=[.s s,c]) (r:=.b (lP 0 n)) fun F w k l a d=>?_
  match k,a with
  |[v,x],_=>
   have o:=d 0 _ _ rfl rfl;obtain⟨m,rfl,p,q,t⟩:=F9 i (d 1 _ _ rfl rfl);cases o with
   |s _ b y=>
    refine(RG b m q t w).mono ?_;rintro e z ⟨rfl,rfl⟩;refine⟨_,rfl,Below.refl _ _,F,fun _ _=>rfl,l,?_⟩;have:decide (0<=Lib.indexByte b.data.toList m.toNat.toUInt8)=lP 0 n:=by
     rw[jI];rcases xY u _ p s b.data.toList 0 n y j with⟨f,g⟩|⟨f,g⟩
     .have f:Lib.indexByte b.data.toList m.toNat.toUInt8= -1:=f;rw[f,g]
     .have e:n=Lib.indexByte b.data.toList m.toNat.toUInt8:=by rw[g];simp
      rw[e]
    rw[this];exact .b _
 .cases h
end
open Go Go.Proofs.Tryz
def mF:Nat->Nat->Bool:=fun _ _=>false
def fnT:FT:=.n 156 ⟨f156,[0,1,4,6,8,10,13,14,15,16,24,25,26,27,40,41,42,43],mF⟩ (.n 85 ⟨f85,[0,1,4,5,6,7,21],mF⟩ (.n 45 ⟨f45,[0,1,2,3,4,5,6,7,8,9,31,38,39,40,41,50,52,69,87,117,125,132,133,134,135,176],(fun r o=>Bool.rec (Bool.rec (Bool.rec (false) true (Bool.rec false (Nat.beq o 0) (Nat.beq r 4))) true (Bool.rec false (Nat.beq o 2) (Nat.beq r 13))) true (Bool.rec false (Nat.beq o 3) (Nat.beq r 22)))⟩ (.n 26 ⟨f26,[0,1,2,3,4,5,6,7,8],mF⟩ (.n 19 ⟨f19,[0,1,2,3,5,6,7,8,9,10,11,12,13,14,18,24,34,44],mF⟩ (.n 16 ⟨f16,[0,1,2,4,28,30,31,32,33,41],mF⟩ (.n 13 ⟨f13,[0,1,3,4,5,6,7,8,12,21],mF⟩ (.n 9 ⟨f9,[0,1,2,5,6,7,8,9,17],mF⟩ .e .e) (.n 14 ⟨f14,[0,1,2,3,5,6,7,8,9,10,20],mF⟩ .e .e)) (.n 18 ⟨f18,[0,2,3],mF⟩ (.n 17 ⟨f17,[0,2,3,4,5,7,10,13,14,15,21,28,34],mF⟩ .e .e) .e)) (.n 23 ⟨f23,[0,1,2,3,4,5,6,11,16,25,26,27,28,36,50],mF⟩ (.n 21 ⟨f21,[0,2,3,4,5,7,14,15,16,17,21,22,26,31,39,49,55],(fun r o=>Bool.rec (false) true (Bool.rec false (Nat.beq o 1) (Nat.beq r 2)))⟩ (.n 20 ⟨f20,[0,1,2],mF⟩ .e .e) (.n 22 ⟨f22,[0,2,3,4,5,6,7,13,24,28,32,41,60,97,119,140],mF⟩ .e .e)) (.n 25 ⟨f25,[0,1,2,3,4,5,6,7,8,9,10,28,37],mF⟩ (.n 24 ⟨f24,[0,1,2,4,5,6,7,8,15,24],mF⟩ .e .e) .e))) (.n 34 ⟨f34,[0,2],mF⟩ (.n 31 ⟨f31,[0,1,2,3,4,5,6,14],mF⟩ (.n 28 ⟨f28,[0,1,4,5,6,13,21,30,53],mF⟩ (.n 27 ⟨f27,[0,1,2,3],mF⟩ .e .e) (.n 29 ⟨f29,[0,1,2,7,13,14,21,28,40],mF⟩ .e .e)) (.n 33 ⟨f33,[0,2],mF⟩ (.n 32 ⟨f32,[0,2,3,5,22,23,24,25],mF⟩ .e .e) .e)) (.n 38 ⟨f38,[0,1,2,6,7,8,9,10,12,13,14,15,36],mF⟩ (.n 36 ⟨f36,[0,2],mF⟩ (.n 35 ⟨f35,[0,2,3,6],mF⟩ .e .e) (.n 37 ⟨f37,[0,1,4,5],mF⟩ .e .e)) (.n 43 ⟨f43,[0,1,4,5,6,7,8,9,10,25,45,48,59,74,91,99],mF⟩ (.n 41 ⟨f41,[0,2,3,4,5,11],mF⟩ .e .e) .e)))) (.n 59 ⟨f59,[0,1,4],mF⟩ (.n 52 ⟨f52,[0,1,2,3,5,7,8,9,10,24,26,33,40,55],mF⟩ (.n 49 ⟨f49,[0,1,2,3,4,5,9,10,11,12,13,15,16,17,29,38,44,63,78,97,118,123,124,125,126,138],(fun r o=>Bool.rec (Bool.rec (false) true (Bool.rec false (Nat.beq o 3) (Nat.beq r 26))) true (Bool.rec false (Nat.beq o 4) (Nat.beq r 26)))⟩ (.n 47 ⟨f47,[0,2,3,4,5,13,26,29,46,51,59,69,86,104],mF⟩ (.n 46 ⟨f46,[0,2,3,4,5,6,7,10,11,12,13,20,31,49,57,67],mF⟩ .e .e) (.n 48 ⟨f48,[0,1,2,4,5,6,9,11,12,13,14,15,16,18,20,23,31,32,33,34,47,48,49,50,64,65,66,67,73,84,88,92,93,94,95,100,101,102,103],mF⟩ .e .e)) (.n 51 ⟨f51,[0,1,2,4,5,6,10,27],mF⟩ (.n 50 ⟨f50,[0,1,2,4,5,6,26,27,29,31,33,40,41,48,53],mF⟩ .e .e) .e)) (.n 56 ⟨f56,[0,1,2,3,4,5,8,10,11,12,13,14,15,18,33,48],mF⟩ (.n 54 ⟨f54,[0,1,2,4,5,6,7,8,9,10,22,49,65,70],mF⟩ (.n 53 ⟨f53,[0,1,2,4,15,16,17],mF⟩ .e .e) (.n 55 ⟨f55,[0,1,2,3,4,5,6,7,10,11,12,13,14,15,16,17,18,19,20,28,66,75,101,113,122,135,143,151],mF⟩ .e .e)) (.n 58 ⟨f58,[0,1,2,3,5,6,7,8,9,11,23,24,25,26],(fun r o=>Bool.rec (Bool.rec (false) true (Bool.rec false (Nat.beq o 9) (Nat.beq r 6))) true (Bool.rec false (Nat.beq o 10) (Nat.beq r 6)))⟩ (.n 57 ⟨f57,[0,1,4,6,8,16,17,18,19,24,32,33,34,35,44,48],mF⟩ .e .e) .e))) (.n 69 ⟨f69,[0,2],mF⟩ (.n 66 ⟨f66,[0,1,2,6,12],mF⟩ (.n 64 ⟨f64,[0,1,2,6,7,9,72],(fun r o=>Bool.rec (Bool.rec (Bool.rec (false) true (Bool.rec false (Nat.beq o 12) (Nat.beq r 2))) true (Bool.rec false (Nat.beq o 13) (Nat.beq r 2))) true (Bool.rec false (Nat.beq o 21) (Nat.beq r 4)))⟩ (.n 60 ⟨f60,[0,2],mF⟩ .e .e) (.n 65 ⟨f65,[0,2],mF⟩ .e .e)) (.n 68 ⟨f68,[0,1,2,6,7,8,29,43],(fun r o=>Bool.rec (Bool.rec (false) true (Bool.rec false (Nat.beq o 6) (Nat.beq r 7))) true (Bool.rec false (Nat.beq o 7) (Nat.beq r 7)))⟩ (.n 67 ⟨f67,[0,1,4,5,13,27],mF⟩ .e .e) .e)) (.n 77 ⟨f77,[0,2,4],mF⟩ (.n 76 ⟨f76,[0,1,2,3,4,5,8,9,10,11,13,14,28,48,51,52,53,54,63,80],(fun r o=>Bool.rec (false) true (Bool.rec false (Nat.beq o 4) (Nat.beq r 5)))⟩ (.n 70 ⟨f70,[0,1,2,6,7,16,30],mF⟩ .e .e) .e) (.n 84 ⟨f84,[0,2,3,4,5,8,9,10,11,20],mF⟩ (.n 78 ⟨f78,[0,1,4,5,6,14],mF⟩ .e .e) .e))))) (.n 117 ⟨f117,[0,1,2,3,6,7,9,10,11,13,15,16,17,18,19,31,33,34,35,36,54,55,56,57],mF⟩ (.n 103 ⟨f103,[0,1,2,3,6,7,8],mF⟩ (.n 96 ⟨f96,[0,2],mF⟩ (.n 92 ⟨f92,[0,2],mF⟩ (.n 87 ⟨f87,[0,2],mF⟩ (.n 86 ⟨f86,[0,2],mF⟩ .e .e) (.n 91 ⟨f91,[0,1,2,3,5,8,51,54,55,56,57,69],mF⟩ .e .e)) (.n 94 ⟨f94,[0,1,2,4,5,6],mF⟩ (.n 93 ⟨f93,[0,1,2,3,8],mF⟩ .e .e) .e)) (.n 100 ⟨f100,[0,2,3,4,6,7,8,10,11,12,13,23],mF⟩ (.n 98 ⟨f98,[0,2,3,4,5,11],mF⟩ (.n 97 ⟨f97,[0,1,2,3,6,7,8],mF⟩ .e .e) (.n 99 ⟨f99,[0,1,2,3,4,5,6,13,17,22,28],mF⟩ .e .e)) (.n 102 ⟨f102,[0,1,2,12,33],mF⟩ (.n 101 ⟨f101,[0,2,3,5,6,7,9,10,11,12,21],mF⟩ .e .e) .e))) (.n 110 ⟨f110,[0,2],mF⟩ (.n 107 ⟨f107,[0,1,2,3,4,5,6,19,31,36,43],mF⟩ (.n 105 ⟨f105,[0,1,2,4,5,6,10],mF⟩ (.n 104 ⟨f104,[0,2],mF⟩ .e .e) (.n 106 ⟨f106,[0,1,2,3,6],mF⟩ .e .e)) (.n 109 ⟨f109,[0,2],mF⟩ (.n 108 ⟨f108,[0,1,2,4],mF⟩ .e .e) .e)) (.n 114 ⟨f114,[0,2,3,5,6,8,9,10,11],mF⟩ (.n 113 ⟨f113,[0],mF⟩ (.n 111 ⟨f111,[0,1,2],mF⟩ .e .e) .e) (.n 116 ⟨f116,[0,1,2],mF⟩ (.n 115 ⟨f115,[0,1,2,4,5,8],mF⟩ .e .e) .e)))) (.n 138 ⟨f138,[0,1,2,3,4,5,6,7,8,9,10,11,13,14,15,16,25,26,27,28,31,44,68,82],mF⟩ (.n 127 ⟨f127,[0,1,2,4,5,7,8,12],mF⟩ (.n 121 ⟨f121,[0,1,2,3,4,5,6,8,9,10,11,13,16,17,18,19,24],(fun r o=>Bool.rec (Bool.rec (Bool.rec (Bool.rec (false) true (Bool.rec false (Nat.beq o 3) (Nat.beq r 7))) true (Bool.rec false (Nat.beq o 4) (Nat.beq r 7))) true (Bool.rec false (Nat.beq o 3) (Nat.beq r 9))) true (Bool.rec false (Nat.beq o 4) (Nat.beq r 9)))⟩ (.n 119 ⟨f119,[0,1,2,4],mF⟩ (.n 118 ⟨f118,[0,1,2,3,4,5,6,7,8,9,10,11,12,13,14,15,18,20,24,27,36,50,64,78,87,88,93,98,103,108,113,118,123,128,133,138,143,148,153,158,163,168,173,178,183,188],mF⟩ .e .e) (.n 120 ⟨f120,[0,1,2],mF⟩ .e .e)) (.n 126 ⟨f126,[0,1,2,4],mF⟩ (.n 124 ⟨f124,[0,1,2],mF⟩ .e .e) .e)) (.n 131 ⟨f131,[0,2,3,5,6,7,8,9],mF⟩ (.n 129 ⟨f129,[0,1,4],mF⟩ (.n 128 ⟨f128,[0,1,2,4,5],mF⟩ .e .e) (.n 130 ⟨f130,[0,1,2,6],mF⟩ .e .e)) (.n 137 ⟨f137,[0,1,2,4,6,7,8,9,13],mF⟩ (.n 132 ⟨f132,[0,1,2,3,6,7,8,9,17],mF⟩ .e .e) .e))) (.n 146 ⟨f146,[0,1,2,4,5,6,7,8],mF⟩ (.n 142 ⟨f142,[0,1,2],mF⟩ (.n 140 ⟨f140,[0,1,2,3],mF⟩ (.n 139 ⟨f139,[0,1,2,3,4,5,6,8,9,10,11,12,13,14,15,16,17,18,19,20,22,23,37,46,61,75,81,98,99,100,101,111],mF⟩ .e .e) (.n 141 ⟨f141,[0,1,4],mF⟩ .e .e)) (.n 144 ⟨f144,[0,1,2,3,4,5,6,7,8,9,10,11,13,37],mF⟩ (.n 143 ⟨f143,[0,1,2,3,4,5,10],mF⟩ .e .e) .e)) (.n 149 ⟨f149,[0,1],mF⟩ (.n 148 ⟨f148,[0,2],mF⟩ (.n 147 ⟨f147,[0,2],mF⟩ .e .e) .e) (.n 155 ⟨f155,[0,1,4,27,30,58],mF⟩ (.n 154 ⟨f154,[0,1,4,5,6,11,12,13,16,19],mF⟩ .e .e) .e)))))) (.n 244 ⟨f244,[0,1,4,5,7,8,9,16],mF⟩ (.n 194 ⟨f194,[0,1,2,4],mF⟩ (.n 178 ⟨f178,[0,1,4,5,6,7,8,9,11,12,14,15,16,28,30,44,56,65,68,69,70,76,78],mF⟩ (.n 171 ⟨f171,[0,2,3,4,5,6,7,8,18,31,36],mF⟩ (.n 168 ⟨f168,[0,1,4,5,6,14],mF⟩ (.n 158 ⟨f158,[0,1,4],mF⟩ (.n 157 ⟨f157,[0,2,3,4,21],mF⟩ .e .e) (.n 161 ⟨f161,[0,1,4],mF⟩ .e .e)) (.n 170 ⟨f170,[0,1,4,5,6,8,10,11,12,13,16,21,27],(fun r o=>Bool.rec (Bool.rec (false) true (Bool.rec false (Nat.beq o 0) (Nat.beq r 1))) true (Bool.rec false (Nat.beq o 2) (Nat.beq r 11)))⟩ (.n 169 ⟨f169,[0,1,2,4],mF⟩ .e .e) .e)) (.n 175 ⟨f175,[0,2],mF⟩ (.n 173 ⟨f173,[0,2,3,4,6,7,9,19,38,41,42,43,44,49,90,101,102,103,104,108],mF⟩ (.n 172 ⟨f172,[0,2,12,27],mF⟩ .e .e) (.n 174 ⟨f174,[0,1,2,4,5],mF⟩ .e .e)) (.n 177 ⟨f177,[0,2],mF⟩ (.n 176 ⟨f176,[0,1,4,5,7,8,9,11,13,14,15,29,30,31],mF⟩ .e .e) .e))) (.n 186 ⟨f186,[0,1],mF⟩ (.n 183 ⟨f183,[0,1,2,3,6,7,8,9,11,12,13,14,15,16,33],mF⟩ (.n 180 ⟨f180,[0,1,3],mF⟩ (.n 179 ⟨f179,[0,2,8],mF⟩ .e .e) (.n 182 ⟨f182,[0,1,4,5,6,7,8,9,10,11,12,13,14,24,32,41,42,43,44,45,73],mF⟩ .e .e)) (.n 185 ⟨f185,[0,1,2,4,5,6,14],mF⟩ (.n 184 ⟨f184,[0,1,4,5,9],mF⟩ .e .e) .e)) (.n 189 ⟨f189,[0,1,4,5,6,7,8],mF⟩ (.n 188 ⟨f188,[0,1,2,3,4,55,56],mF⟩ (.n 187 ⟨f187,[0,1,2,3,4,5,16,25,31],mF⟩ .e .e) .e) (.n 193 ⟨f193,[0,1,2,4],mF⟩ (.n 190 ⟨f190,[0,1,2,3,4,5,7,8,9,10,11,22],(fun r o=>Bool.rec (Bool.rec (false) true (Bool.rec false (Nat.beq o 7) (Nat.beq r 7))) true (Bool.rec false (Nat.beq o 8) (Nat.beq r 7)))⟩ .e .e) .e)))) (.n 225 ⟨f225,[0,1,2,3,8,9,10,11,12,13,15,16,17,19,27,40,46,53,59,91,92,93,94,114,115,116,117],mF⟩ (.n 210 ⟨f210,[0,1,3],(fun r o=>Bool.rec (false) true (Bool.rec false (Nat.beq o 8) (Nat.beq r 1)))⟩ (.n 198 ⟨f198,[0,1,4,5,12],mF⟩ (.n 196 ⟨f196,[0,1,2],mF⟩ (.n 195 ⟨f195,[0,1,2,3],mF⟩ .e .e) (.n 197 ⟨f197,[0,2],mF⟩ .e .e)) (.n 208 ⟨f208,[0,1,2],mF⟩ (.n 204 ⟨f204,[0,1,2,3,4,5,6,7,12,21,32,43,60],mF⟩ .e .e) .e)) (.n 219 ⟨f219,[0,2],mF⟩ (.n 215 ⟨f215,[0,1,2],mF⟩ (.n 214 ⟨f214,[0,1,4],mF⟩ .e .e) (.n 217 ⟨f217,[0,1,2,6,8,12,13,14,15,36],mF⟩ .e .e)) (.n 221 ⟨f221,[0,1,2,5],mF⟩ (.n 220 ⟨f220,[0,1,2,4,5],mF⟩ .e .e) .e))) (.n 237 ⟨f237,[0,2],mF⟩ (.n 229 ⟨f229,[0,1,2],mF⟩ (.n 227 ⟨f227,[0,1,2,4],mF⟩ (.n 226 ⟨f226,[0,1,2,3,5,6,8,9,10,11,12,13,14,15,16,33,43,44,49,72,81],mF⟩ .e .e) (.n 228 ⟨f228,[0,1,2],mF⟩ .e .e)) (.n 235 ⟨f235,[0,1,2,6,7,8,9,13,30,35,54],mF⟩ (.n 233 ⟨f233,[0,1,2,3,4,7,11,12,13,14,19,27],(fun r o=>Bool.rec (Bool.rec (false) true (Bool.rec false (Nat.beq o 2) (Nat.beq r 4))) true (Bool.rec false (Nat.beq o 3) (Nat.beq r 4)))⟩ .e .e) .e)) (.n 240 ⟨f240,[0,2],mF⟩ (.n 239 ⟨f239,[0,2],mF⟩ (.n 238 ⟨f238,[0,1,2,3,5,7,10,11,16],mF⟩ .e .e) .e) (.n 242 ⟨f242,[0,1,4,5,7,17,18,19,20,26],mF⟩ (.n 241 ⟨f241,[0,2],mF⟩ .e .e) .e))))) (.n 310 ⟨f310,[0,1,2,3,4,7,8,9,10,11,12,13,15,23,24,27,30,33,42,53,54],mF⟩ (.n 268 ⟨f268,[0,1,2,3,4,5,6,7],mF⟩ (.n 261 ⟨f261,[0,1,2],mF⟩ (.n 257 ⟨f257,[0,2],mF⟩ (.n 250 ⟨f250,[0,1,4],mF⟩ (.n 248 ⟨f248,[0,1,4],mF⟩ .e .e) (.n 251 ⟨f251,[0,1,2,3,4,5,6,8,9,11,22,31,38],mF⟩ .e .e)) (.n 260 ⟨f260,[0,2,3,5,6,21,36,51],mF⟩ (.n 259 ⟨f259,[0,1,4,5,6,7,8,15,26,30,31,35,44],mF⟩ .e .e) .e)) (.n 265 ⟨f265,[0,1,2,3,6,7,9,22,28,29,30,31,37],mF⟩ (.n 263 ⟨f263,[0,1,2,3,4,5,16],mF⟩ (.n 262 ⟨f262,[0,1,2,3,5,7,9,10,11,12,16,17,18,19,24,36],mF⟩ .e .e) (.n 264 ⟨f264,[0,1,2,3,5,6,7,8,9,19],mF⟩ .e .e)) (.n 267 ⟨f267,[0,1,4,5],mF⟩ (.n 266 ⟨f266,[0,1,2,6,7,8,9,13,30,35,54],mF⟩ .e .e) .e))) (.n 289 ⟨f289,[0,1,2,6,7,17,31,44],mF⟩ (.n 284 ⟨f284,[0,1,5,6,7,8,9,13,14,19],mF⟩ (.n 277 ⟨f277,[0,2,3,5,6,7,8,9,14],mF⟩ (.n 269 ⟨f269,[0,2],mF⟩ .e .e) (.n 278 ⟨f278,[0,2,3,4,6,7,8,9,10,15],mF⟩ .e .e)) (.n 288 ⟨f288,[0,1,2],mF⟩ (.n 285 ⟨f285,[0,2,33],mF⟩ .e .e) .e)) (.n 300 ⟨f300,[0,1,4],mF⟩ (.n 296 ⟨f296,[0,1,2],mF⟩ (.n 294 ⟨f294,[0,1,2,3,8,9,14,34],mF⟩ .e .e) .e) (.n 309 ⟨f309,[0,1,2,4],mF⟩ (.n 308 ⟨f308,[0,2,3,5,6,7,8,9,15],mF⟩ .e .e) .e)))) (.n 344 ⟨f344,[0,1,2,3,4,5,6],mF⟩ (.n 323 ⟨f323,[0,1,3,4,5,6,7,10,11,12,28,30,33,42,53,65],mF⟩ (.n 318 ⟨f318,[0,1,4,5,9],mF⟩ (.n 315 ⟨f315,[0,1,2,3,5,6,8,22,24,25,26,27,34],mF⟩ (.n 314 ⟨f314,[0,1,2,3,4,5,8,9,10,18,36],mF⟩ .e .e) (.n 316 ⟨f316,[0,1,2,3,8,9,14,34],mF⟩ .e .e)) (.n 320 ⟨f320,[0,1,2,3,4,5,6,7,8],mF⟩ (.n 319 ⟨f319,[0,1,2,3,4,5],mF⟩ .e .e) .e)) (.n 336 ⟨f336,[0,1,2,3,4,5],mF⟩ (.n 327 ⟨f327,[0,1,4,5,6,7,8,9,10,11,12,13,16,24,31,36,59,64,73,93,107,114,132,139],mF⟩ (.n 324 ⟨f324,[0,1,2,3,5,8,15,20],mF⟩ .e .e) (.n 333 ⟨f333,[0,1],mF⟩ .e .e)) (.n 343 ⟨f343,[0,1,2],mF⟩ (.n 339 ⟨f339,[0,1,2,3,6,7,9,11,12,13],mF⟩ .e .e) .e))) (.n 361 ⟨f361,[0,2,3,4,5,6,7,8,9,10,11,12,16,37,53,60,66,91,98],mF⟩ (.n 349 ⟨f349,[0,1,2,3,4],mF⟩ (.n 346 ⟨f346,[0,1,2,3,4],mF⟩ (.n 345 ⟨f345,[0,1,4,5,7,8,9,10,11],mF⟩ .e .e) (.n 347 ⟨f347,[0,1,4,5],mF⟩ .e .e)) (.n 360 ⟨f360,[0,1,2,5,6,7,9,10,11,12,33],mF⟩ (.n 358 ⟨f358,[0,1,2,3,6,7,8,13,28],mF⟩ .e .e) .e)) (.n 364 ⟨f364,[0,1,2,3,6,7,8,11,32],mF⟩ (.n 363 ⟨f363,[0,1,2,3,6,7,10,12,36,41],mF⟩ (.n 362 ⟨f362,[0,1,2,3,4,7,8,11,26],mF⟩ .e .e) .e) (.n 370 ⟨f370,[0,2,3,4,5,7,9,11,13,15,17],mF⟩ (.n 365 ⟨f365,[0,2,3,4,5,7,8,11,16,26,46,47,48,53,57,70],mF⟩ .e .e) .e))))))
def aaB(f:Nat):Bool:=Bool.rec (Bool.rec (Bool.rec (Bool.rec (Bool.rec (Bool.rec (Bool.rec (Bool.rec (Bool.rec (Bool.rec (Bool.rec true false (Nat.beq f 190)) false (Nat.beq f 214)) false (Nat.beq f 146)) false (Nat.beq f 92)) false (Nat.beq f 121)) false (Nat.beq f 60)) false (Nat.beq f 52)) false (Nat.beq f 27)) false (Nat.beq f 33)) false (Nat.beq f 49)) false (Nat.beq f 58)
def MD:fnT.All tp:=by
 unfold fnT
 repeat' (first|exact trivial|refine⟨⟨rfl,fun _ _=>rfl,aaz (by decide+kernel)⟩,?_,?_⟩)
section
def sG:List D:=List.append (List.replicate 9 (.i .u8 0)) (List.append (List.replicate 5 (.i .u8 1)) (List.append (List.replicate 18 (.i .u8 0)) (.i .u8 1::List.replicate 223 (.i .u8 0))))
def gS(k:Nat):Option (Nat×List (List D)):=Bool.rec none (some (256,[sG])) (Nat.beq k 3)
variable[de]
def RH:List (FuncId×(List V->Option V)):=[(247,Kh),(42,zi),(181,Kk)]
def Vo:∀p∈RH,kS tp p.1 p.2:=by
 intro p a;rcases aw.1 a with rfl|a
 .exact On
 .rcases aw.1 a with rfl|a
  .exact Hh
  .rcases aw.1 a with rfl|a
   .exact Ou
   .cases a
def enL(l:List (FuncId×(List V->Option V))):En:=⟨fnT.get,Kg (List.append l RH),aaB,Ke (qe tp),qe tp,gS,100000,3⟩
def enA(l:List (FuncId×(List V->Option V))):En:=⟨fnT.get,Kg (List.append l RH),aaB,RC (qe tp),Kj (qe tp) 387,gS,100000,3⟩
def ME:Tryz.prog.follows .mixedOrders=true:=by decide+kernel
def MF(a:∀p∈l,kS tp p.1 p.2):qv tp (Kg (List.append l RH)):=
 MB fun p b=>by
  rcases aJ.1 (show p∈l++RH from b)with h|h
  .exact a p h
  .exact Vo p h
def RI(a:∀p∈l,kS tp p.1 p.2)(b:de.G=gS):J2 tp (enL l) where
 Yr:=fun f q h=>FT.Ec MD h
 tab:=fun t c h=>h
 orc:=MF a
 ext:=Mx fun t c h=>h
 mo:=ME
 G:=b.symm
def YO(a:∀p∈l,kS tp p.1 p.2)(b:de.G=gS):J2 tp (enA l) where
 Yr:=fun f q h=>FT.Ec MD h
 tab:=Oo fun t c h=>h
 orc:=MF a
 ext:=Vm fun t c h=>h
 mo:=ME
 G:=b.symm
def pcL(a:∀p∈l,kS tp p.1 p.2)(b:de.G=gS)(h:ij (enL l) k f args y=true):fW tp f/\PC tp f args y:=
 RB (RI a b) (Ek _ rfl) h
def pcA(a:∀p∈l,kS tp p.1 p.2)(b:de.G=gS)(h:ij (enA l) k f args y=true):fW tp f/\PC tp f args y:=
 RB (YO a b) (Vn _ rfl) h
end
section
def orB(a b:Bool):Bool:=Bool.rec b true a
def rgB(a b n:Nat):Bool:=Bool.rec false (Nat.ble n b) (Nat.ble a n)
def El(n:Nat):Bool:=orB (rgB 9 10 n) (orB (Nat.beq n 12) (Nat.beq n 32))
def Kl(n:Nat):Bool:=rgB 48 57 n
def Em(n:Nat):Bool:=orB (rgB 97 122 n) (rgB 65 90 n)
def Km(n:Nat):Bool:=orB (Em n) (Nat.beq n 95)
def RJ(n:Nat):Bool:=orB (Km n) (orB (Kl n) (Nat.beq n 45))
def MG(v:V):Option Nat:=match v with
 |.d (.i .i32 n)=>Int.rec (fun n=>Bool.rec none (some n) (Nat.blt n 128)) (fun _=>none) n
 |_=>none
def Kn(p:Nat->Bool)(args:List V):Option V:=List.rec none (fun v t _=>List.rec (ob (MG v) fun n=>some (.d (.b (p n)))) (fun _ _ _=>none) t) args
def Eo(f:FuncId)(p:Nat->Bool):Nat->Bool:=fun n=>Nat.rec true (fun k ih=>Bool.rec false ih (ij (enL []) 40 f [.d (.i .i32 (Int.ofNat k))] (.d (.b (p k))))) n
def Ov:Eo 104 El 128=true:=by decide+kernel
def Ox:Eo 175 Kl 128=true:=by decide+kernel
def Oy:Eo 177 Km 128=true:=by decide+kernel
def Oz:Eo 110 RJ 128=true:=by decide+kernel
def Hi:Eo 36 Em 128=true:=by decide+kernel
def Kq:Eo 87 El 128=true:=by decide+kernel
variable[de]
def RK{v:V}{n:Nat}(h:MG v=some n):v=.d (.i .i32 (Int.ofNat n))/\n<128:=by
 unfold MG at h;split at h
 .next m=>
  cases m with
  |ofNat m=>
   obtain⟨a,b⟩:=mD h;cases b;exact⟨rfl,by simpa using a⟩
  |negSucc m=>cases h
 .cases h
def MH{f:FuncId}{p:Nat->Bool}:∀{n:Nat},Eo f p n=true->∀k,k<n->ij (enL []) 40 f [.d (.i .i32 (Int.ofNat k))] (.d (.b (p k)))=true
 |0,_,k,a=>by omega
 |n+1,h,k,a=>by
  obtain⟨c,g⟩:=oT (show(Bool.rec false (Eo f p n) (ij (enL []) 40 f [.d (.i .i32 (Int.ofNat n))] (.d (.b (p n)))):Bool)=true from h);by_cases e:k=n
  .subst e;exact c
  .exact MH g k (by omega)
def rM(c:de.G=gS){p:Nat->Bool}(h:Eo f p 128=true):kS tp f (Kn p):=by
 intro args r a
 match args,a with
 |[v],a=>
  obtain⟨n,e,a⟩:=bK (show(ob (MG v) fun n=>some (.d (.b (p n))):Option V)=some r from a);cases a;obtain⟨rfl,g⟩:=RK e;exact .inl (pcL (l:=[]) (fun p i=>by cases i) c (MH h n g))
 |[],a=>cases a
 |_::_::_,a=>cases a
def Vp:List (FuncId×(List V->Option V)):=[(104,Kn El),(175,Kn Kl),(177,Kn Km),(110,Kn RJ),(36,Kn Em),(87,Kn El)]
def MI(b:de.G=gS):∀p∈Vp,kS tp p.1 p.2:=by
 intro p a;rcases aw.1 a with rfl|a
 .exact rM b Ov
 rcases aw.1 a with rfl|a
 .exact rM b Ox
 rcases aw.1 a with rfl|a
 .exact rM b Oy
 rcases aw.1 a with rfl|a
 .exact rM b Oz
 rcases aw.1 a with rfl|a
 .exact rM b Hi
 rcases aw.1 a with rfl|a
 .exact rM b Kq
 cases a
def XM(l:List (FuncId×(List V->Option V))):En:=enL (List.append l Vp)
def Vq(b:∀p∈l,kS tp p.1 p.2)(a:de.G=gS)(h:ij (XM l) k f args y=true):fW tp f/\PC tp f args y:=
 pcL (fun p c=>by
  rcases aJ.1 (show p∈l++Vp from c)with h|h
  .exact b p h
  .exact MI a p h) a h
end
def tk(k:Nat)(t:List Nat)(n:Int)(u:List Nat)(w:Bool):List D:=[.i .i64 (Int.ofNat k),.s (t.map .c),.i .i64 n,.s (u.map .c),.b w]
def nW:V:=.d (.l 5 [tk 1 [114,111,111,116] 0 [] false,tk 6 [44] 0 [] false,tk 7 [32] 0 [] false,tk 1 [100,105,118] 0 [] false,tk 6 [44] 0 [] false,tk 7 [32] 0 [] false,tk 1 [112] 0 [] false,tk 6 [44] 0 [] false,tk 7 [32] 0 [] false,tk 1 [117,108] 0 [] false,tk 6 [44] 0 [] false,tk 7 [32] 0 [] false,tk 1 [108,105] 0 [] false,tk 6 [44] 0 [] false,tk 7 [32] 0 [] false,tk 1 [104,49] 0 [] false,tk 7 [32] 0 [] false,tk 6 [123] 0 [] false,tk 7 [32] 0 [] false,tk 1 [100,105,115,112,108,97,121] 0 [] false,tk 6 [58] 0 [] false,tk 7 [32] 0 [] false,tk 1 [98,108,111,99,107] 0 [] false,tk 7 [32] 0 [] false,tk 6 [125] 0 [] false,tk 7 [32] 0 [] false,tk 1 [116,97,98,108,101] 0 [] false,tk 7 [32] 0 [] false,tk 6 [123] 0 [] false,tk 7 [32] 0 [] false,tk 1 [100,105,115,112,108,97,121] 0 [] false,tk 6 [58] 0 [] false,tk 7 [32] 0 [] false,tk 1 [116,97,98,108,101] 0 [] false,tk 7 [32] 0 [] false,tk 6 [125] 0 [] false,tk 7 [32] 0 [] false,tk 1 [116,114] 0 [] false,tk 7 [32] 0 [] false,tk 6 [123] 0 [] false,tk 7 [32] 0 [] false,tk 1 [100,105,115,112,108,97,121] 0 [] false,tk 6 [58] 0 [] false,tk 7 [32] 0 [] false,tk 1 [116,97,98,108,101,45,114,111,119] 0 [] false,tk 7 [32] 0 [] false,tk 6 [125] 0 [] false,tk 7 [32] 0 [] false,tk 1 [116,100] 0 [] false,tk 7 [32] 0 [] false,tk 6 [123] 0 [] false,tk 7 [32] 0 [] false,tk 1 [100,105,115,112,108,97,121] 0 [] false,tk 6 [58] 0 [] false,tk 7 [32] 0 [] false,tk 1 [116,97,98,108,101,45,99,101,108,108] 0 [] false,tk 7 [32] 0 [] false,tk 6 [125] 0 [] false,tk 7 [32] 0 [] false,tk 1 [115,116,121,108,101] 0 [] false,tk 6 [44] 0 [] false,tk 7 [32] 0 [] false,tk 1 [115,99,114,105,112,116] 0 [] false,tk 7 [32] 0 [] false,tk 6 [123] 0 [] false,tk 7 [32] 0 [] false,tk 1 [100,105,115,112,108,97,121] 0 [] false,tk 6 [58] 0 [] false,tk 7 [32] 0 [] false,tk 1 [110,111,110,101] 0 [] false,tk 7 [32] 0 [] false,tk 6 [125] 0 [] false,tk 7 [32] 0 [] false,tk 1 [112] 0 [] false,tk 7 [32] 0 [] false,tk 6 [123] 0 [] false,tk 7 [32] 0 [] false,tk 1 [109,97,114,103,105,110] 0 [] false,tk 6 [58] 0 [] false,tk 7 [32] 0 [] false,tk 4 [] 1024 [112,120] true,tk 7 [32] 0 [] false,tk 4 [] 0 [] true,tk 7 [32] 0 [] false,tk 6 [125] 0 [] false,tk 7 [32] 0 [] false,tk 1 [117,108] 0 [] false,tk 7 [32] 0 [] false,tk 6 [123] 0 [] false,tk 7 [32] 0 [] false,tk 1 [112,97,100,100,105,110,103,45,108,101,102,116] 0 [] false,tk 6 [58] 0 [] false,tk 7 [32] 0 [] false,tk 4 [] 2560 [112,120] true,tk 7 [32] 0 [] false,tk 6 [125] 0 [] false,tk 7 [32] 0 [] false,tk 1 [104,49] 0 [] false,tk 7 [32] 0 [] false,tk 6 [123] 0 [] false,tk 7 [32] 0 [] false,tk 1 [102,111,110,116,45,115,105,122,101] 0 [] false,tk 6 [58] 0 [] false,tk 7 [32] 0 [] false,tk 4 [] 2048 [112,120] true,tk 6 [59] 0 [] false,tk 7 [32] 0 [] false,tk 1 [109,97,114,103,105,110] 0 [] false,tk 6 [58] 0 [] false,tk 7 [32] 0 [] false,tk 4 [] 1024 [112,120] true,tk 7 [32] 0 [] false,tk 4 [] 0 [] true,tk 7 [32] 0 [] false,tk 6 [125] 0 [] false,tk 7 [32] 0 [] false,tk 1 [98] 0 [] false,tk 6 [44] 0 [] false,tk 7 [32] 0 [] false,tk 1 [101,109] 0 [] false,tk 7 [32] 0 [] false,tk 6 [123] 0 [] false,tk 7 [32] 0 [] false,tk 1 [99,111,108,111,114] 0 [] false,tk 6 [58] 0 [] false,tk 7 [32] 0 [] false,tk 1 [105,110,104,101,114,105,116] 0 [] false,tk 7 [32] 0 [] false,tk 6 [125] 0 [] false])
def zj(l:List Nat):V:=.d (.l 1 (l.map fun n=>[.i .i32 (Int.ofNat n)]))
def tf(l:List Nat):V:=.d (.l 1 (l.map fun n=>[.i .u8 (Int.ofNat n)]))
def MJ(l:List Nat):V:=.d (.s (l.map .c))
def zk(l:List Sb):V:=.d (.l 1 (l.map fun x=>match x with|.c n=>[.i .u8 (Int.ofNat n)]|.x e a b=>[.x .u8 e (Int.ofNat a) (Int.ofNat b)]))
def jh:List Nat:=[114,111,111,116,44,32,100,105,118,44,32,112,44,32,117,108,44,32,108,105,44,32,104,49,32,123,32,100,105,115,112,108,97,121,58,32,98,108,111,99,107,32,125,32,116,97,98,108,101,32,123,32,100,105,115,112,108,97,121,58,32,116,97,98,108,101,32,125,32,116,114,32,123,32,100,105,115,112,108,97,121,58,32,116,97,98,108,101,45,114,111,119,32,125,32,116,100,32,123,32,100,105,115,112,108,97,121,58,32,116,97,98,108,101,45,99,101,108,108,32,125,32,115,116,121,108,101,44,32,115,99,114,105,112,116,32,123,32,100,105,115,112,108,97,121,58,32,110,111,110,101,32,125,32,112,32,123,32,109,97,114,103,105,110,58,32,49,54,112,120,32,48,32,125,32,117,108,32,123,32,112,97,100,100,105,110,103,45,108,101,102,116,58,32,52,48,112,120,32,125,32,104,49,32,123,32,102,111,110,116,45,115,105,122,101,58,32,51,50,112,120,59,32,109,97,114,103,105,110,58,32,49,54,112,120,32,48,32,125,32,98,44,32,101,109,32,123,32,99,111,108,111,114,58,32,105,110,104,101,114,105,116,32,125]
def eE:V:=(.tu [.d (.l 2 [[.l 1 [[.l 3 [[.i .i64 (0),.s [.c 114,.c 111,.c 111,.c 116],.z]]],[.l 3 [[.i .i64 (0),.s [.c 100,.c 105,.c 118],.z]]],[.l 3 [[.i .i64 (0),.s [.c 112],.z]]],[.l 3 [[.i .i64 (0),.s [.c 117,.c 108],.z]]],[.l 3 [[.i .i64 (0),.s [.c 108,.c 105],.z]]],[.l 3 [[.i .i64 (0),.s [.c 104,.c 49],.z]]]],.l 3 [[.s [.c 100,.c 105,.c 115,.c 112,.c 108,.c 97,.c 121],.l 5 [[.i .i64 (1),.s [.c 98,.c 108,.c 111,.c 99,.c 107],.i .i64 (0),.s [],.b false]],.b false]]],[.l 1 [[.l 3 [[.i .i64 (0),.s [.c 116,.c 97,.c 98,.c 108,.c 101],.z]]]],.l 3 [[.s [.c 100,.c 105,.c 115,.c 112,.c 108,.c 97,.c 121],.l 5 [[.i .i64 (1),.s [.c 116,.c 97,.c 98,.c 108,.c 101],.i .i64 (0),.s [],.b false]],.b false]]],[.l 1 [[.l 3 [[.i .i64 (0),.s [.c 116,.c 114],.z]]]],.l 3 [[.s [.c 100,.c 105,.c 115,.c 112,.c 108,.c 97,.c 121],.l 5 [[.i .i64 (1),.s [.c 116,.c 97,.c 98,.c 108,.c 101,.c 45,.c 114,.c 111,.c 119],.i .i64 (0),.s [],.b false]],.b false]]],[.l 1 [[.l 3 [[.i .i64 (0),.s [.c 116,.c 100],.z]]]],.l 3 [[.s [.c 100,.c 105,.c 115,.c 112,.c 108,.c 97,.c 121],.l 5 [[.i .i64 (1),.s [.c 116,.c 97,.c 98,.c 108,.c 101,.c 45,.c 99,.c 101,.c 108,.c 108],.i .i64 (0),.s [],.b false]],.b false]]],[.l 1 [[.l 3 [[.i .i64 (0),.s [.c 115,.c 116,.c 121,.c 108,.c 101],.z]]],[.l 3 [[.i .i64 (0),.s [.c 115,.c 99,.c 114,.c 105,.c 112,.c 116],.z]]]],.l 3 [[.s [.c 100,.c 105,.c 115,.c 112,.c 108,.c 97,.c 121],.l 5 [[.i .i64 (1),.s [.c 110,.c 111,.c 110,.c 101],.i .i64 (0),.s [],.b false]],.b false]]],[.l 1 [[.l 3 [[.i .i64 (0),.s [.c 112],.z]]]],.l 3 [[.s [.c 109,.c 97,.c 114,.c 103,.c 105,.c 110],.l 5 [[.i .i64 (4),.s [],.i .i64 (1024),.s [.c 112,.c 120],.b true],[.i .i64 (4),.s [],.i .i64 (0),.s [],.b true]],.b false]]],[.l 1 [[.l 3 [[.i .i64 (0),.s [.c 117,.c 108],.z]]]],.l 3 [[.s [.c 112,.c 97,.c 100,.c 100,.c 105,.c 110,.c 103,.c 45,.c 108,.c 101,.c 102,.c 116],.l 5 [[.i .i64 (4),.s [],.i .i64 (2560),.s [.c 112,.c 120],.b true]],.b false]]],[.l 1 [[.l 3 [[.i .i64 (0),.s [.c 104,.c 49],.z]]]],.l 3 [[.s [.c 102,.c 111,.c 110,.c 116,.c 45,.c 115,.c 105,.c 122,.c 101],.l 5 [[.i .i64 (4),.s [],.i .i64 (2048),.s [.c 112,.c 120],.b true]],.b false],[.s [.c 109,.c 97,.c 114,.c 103,.c 105,.c 110],.l 5 [[.i .i64 (4),.s [],.i .i64 (1024),.s [.c 112,.c 120],.b true],[.i .i64 (4),.s [],.i .i64 (0),.s [],.b true]],.b false]]],[.l 1 [[.l 3 [[.i .i64 (0),.s [.c 98],.z]]],[.l 3 [[.i .i64 (0),.s [.c 101,.c 109],.z]]]],.l 3 [[.s [.c 99,.c 111,.c 108,.c 111,.c 114],.l 5 [[.i .i64 (1),.s [.c 105,.c 110,.c 104,.c 101,.c 114,.c 105,.c 116],.i .i64 (0),.s [],.b false]],.b false]]]]),.d (.i .i64 (0))])
