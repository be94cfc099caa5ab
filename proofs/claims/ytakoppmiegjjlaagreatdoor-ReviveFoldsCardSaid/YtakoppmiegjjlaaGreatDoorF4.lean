import Derived.Test.YtakoppmiegjjlaaGreatDoorF3
import Derived.Laws.Strings
import Derived.Laws.IdiomStrings
import Derived.Laws.RangeString
import Derived.Lib.AppendStr
import Derived.Test.YtakoppmiegjjlaaGreatDoorF2
import Derived.Test.YtakoppmiegjjlaaGreatDoorProg
import Derived.Test.YtakoppmiegjjlaaGreatDoorF1
import Derived.KernelRfl
set_option linter.unusedVariables false
set_option linter.unusedSimpArgs false
set_option maxRecDepth 100000
namespace Go.Lx
abbrev Bs:=List UInt8
theorem str_size(l:Bs):(ByteArray.mk l.toArray).size=l.length:=by simp [ByteArray.size]
theorem str_ext{s:ByteArray}{l:Bs}(h:s.data.toList=l):s=⟨l.toArray⟩:=by subst h;simp
theorem str_get(l:Bs)(m:Nat)(h:m<(ByteArray.mk l.toArray).size):(ByteArray.mk l.toArray)[m]=l[m]'(by rw [str_size] at h;exact h):=by
  show l.toArray[m]=_
  simp
theorem str_extract(l:Bs)(a b:Nat):(ByteArray.mk l.toArray).extract a b=⟨((l.drop a).take (b-a)).toArray⟩:=by
  apply str_ext
  rw [ByteArray.data_extract]
  simp [List.extract]
theorem str_append(l m:Bs):(ByteArray.mk l.toArray)++(ByteArray.mk m.toArray)=⟨(l++m).toArray⟩:=by
  apply str_ext
  rw [ByteArray.data_append]
  simp
def encY1 (b:UInt8):List Value:=[.int .u8 (b.toNat:Int)]
def encY (l:Bs):List Value:=l.flatMap encY1
theorem encY_map(l:Bs):encY l=l.map fun b=>Value.int .u8 (b.toNat:Int):=by
  induction l with
  |nil=>rfl
  |cons x l ih=>simp only [encY,List.flatMap_cons,List.map_cons] at ih ⊢;rw [ih];rfl
theorem encY_len(l:Bs):(encY l).length=l.length:=by rw [encY_map,List.length_map]
theorem encY_one(l:Bs):∀ u∈encY l,u.oneCell'=true:=by
  intro u hu
  rw [encY_map] at hu
  obtain⟨x,_,rfl⟩:=List.mem_map.1 hu
  rfl
theorem encY_str(l:Bs):Lib.strCells ⟨l.toArray⟩=encY l:=by rw [encY_map];rfl
theorem encY_snoc(o:Bs)(b:UInt8):encY o++[.int .u8 (b.toNat:Int)]=encY (o++[b]):=by simp [encY,encY1]
theorem encY_append(o p:Bs):encY o++encY p=encY (o++p):=by simp [encY]
theorem Rd.byteAt{w:World}{a:Option Addr}{n c m:Nat}{xs:Bs}{x:UInt8}(h:Rd w 1 a n c (encY xs))(hx:xs[m]?=some x):w.cell? (el a (m*1))=some (.int .u8 (x.toNat:Int)):=by
  have:=Rd.elem (f:=encY1) h (fun _=>rfl) hx 0 _ rfl
  rw [el_add] at this
  exact this
theorem encY_set(l:Bs)(k:Nat)(b:UInt8)(h:k<l.length):putAt (encY l) (k*1) [.int .u8 (b.toNat:Int)]=encY (l.set k b):=putAt_flat encY1 1 (fun _=>rfl) b l k h
def encT1 (s:Bs):List Value:=[.string ⟨s.toArray⟩]
def encT (l:List Bs):List Value:=l.flatMap encT1
theorem Rd.strAt{w:World}{a:Option Addr}{n c m:Nat}{xs:List Bs}{x:Bs}(h:Rd w 1 a n c (encT xs))(hx:xs[m]?=some x):w.cell? (el a (m*1))=some (.string ⟨x.toArray⟩):=by
  have:=Rd.elem (f:=encT1) h (fun _=>rfl) hx 0 _ rfl
  rw [el_add] at this
  exact this
def encW1 (n:Nat):List Value:=[.int .u64 (n:Int)]
def encW (l:List Nat):List Value:=l.flatMap encW1
theorem Rd.wordAt{w:World}{a:Option Addr}{n c m:Nat}{xs:List Nat}{x:Nat}(h:Rd w 1 a n c (encW xs))(hx:xs[m]?=some x):w.cell? (el a (m*1))=some (.int .u64 (x:Int)):=by
  have:=Rd.elem (f:=encW1) h (fun _=>rfl) hx 0 _ rfl
  rw [el_add] at this
  exact this
theorem wrapN{k:IntKind}(hk:k.signed=false)(a:Nat):k.wrap (a:Int)=((a%2^k.bits:Nat):Int):=by
  have e:((2:Int)^k.bits)=((2^k.bits:Nat):Int):=by simp
  simp only [IntKind.wrap,hk]
  rw [e,←Int.natCast_emod]
  simp
theorem wrapN_fit{k:IntKind}(hk:k.signed=false){a:Nat}(h:a<2^k.bits):k.wrap (a:Int)=(a:Int):=by rw [wrapN hk,Nat.mod_eq_of_lt h]
theorem ofInt_nat(n a:Nat):BitVec.ofInt n (a:Int)=BitVec.ofNat n a:=by simp
theorem bs_beq(l m:Bs):(l==m)=decide (l=m):=by
  rw [Bool.eq_iff_iff];simp
namespace D
variable {C:Cx} {W:World→Prop} {env:Env} {ty t u t2:TypeId} {pos:String} {af:Array Edge} {gd:Option (Nat×Bool)} {ds:Option Tmp} {x y z:Operand} {k k':IntKind}
theorem lenL{d:Nat}{l:Bs} [h:StrT C.P t](hx:ev env x=some (.string ⟨l.toArray⟩)):Det C W env ⟨some d,.call ⟨.builtin .len,#[x],#[t]⟩,ty,pos,af,gd⟩ (.int .i64 (l.length:Nat)):=by
  have:=D.lenS (C:=C) (W:=W) (t:=t) (d:=d) (ty:=ty) (pos:=pos) (af:=af) (gd:=gd) hx
  rwa [str_size] at this
theorem idx{l:Bs}{b:UInt8}{j:Int}(m:Nat) [h:StrT C.P t](hx:ev env x=some (.string ⟨l.toArray⟩))(hy:ev env y=some (.int k j))(hj:j=(m:Int))(hb:l[m]?=some b):
    Det C W env ⟨ds,.index t x y,ty,pos,af,gd⟩ (.int .u8 (b.toNat:Int)):=by
  obtain⟨hm,he⟩:=List.getElem?_eq_some_iff.1 hb
  have hm':m<(ByteArray.mk l.toArray).size:=by rw [str_size];exact hm
  have e:(ByteArray.mk l.toArray)[m]'hm'=b:=by rw [str_get];exact he
  have:=D.indexStr (C:=C) (T:=W) (t:=t) (ds:=ds) (ty:=ty) (pos:=pos) (af:=af) (gd:=gd) m hx hy hj hm'
  rwa [e] at this
theorem cutH{l:Bs}{h:Nat}{hi:Operand} [ht:StrT C.P t](hx:ev env x=some (.string ⟨l.toArray⟩))(hhi:ev env hi=some (.int k (h:Int)))(h1:h≤l.length):Det C W env ⟨ds,.slice t x none (some hi) none,ty,pos,af,gd⟩ (.string ⟨(l.take h).toArray⟩):=⟨fun ac w he _=>by
  have h2:h≤(ByteArray.mk l.toArray).size:=by rw [str_size];exact h1
  simp only [str_size] at h2
  have e:=str_extract l 0 h
  simp only [List.drop_zero,Nat.sub_zero] at e
  simp [execOp,he.ev hx,he.ev hhi,Instr.sliceAt,run_underlying ht.und,Instr.slice,Instr.sliceBounds,Instr.sliceBound,asIntOf,h1,h2,str_size,e]⟩
theorem cutL{l:Bs}{a:Nat}{lo:Operand} [ht:StrT C.P t](hx:ev env x=some (.string ⟨l.toArray⟩))(hlo:ev env lo=some (.int k (a:Int)))(h1:a≤l.length):Det C W env ⟨ds,.slice t x (some lo) none none,ty,pos,af,gd⟩ (.string ⟨(l.drop a).toArray⟩):=⟨fun ac w he _=>by
  have e:=str_extract l a l.length
  rw [List.take_of_length_le (by simp)] at e
  simp [execOp,he.ev hx,he.ev hlo,Instr.sliceAt,run_underlying ht.und,Instr.slice,Instr.sliceBounds,Instr.sliceBound,asIntOf,h1,str_size,e]⟩
theorem cutLH{l:Bs}{a h:Nat}{j1 j2:Int}{lo hi:Operand} [ht:StrT C.P t](hx:ev env x=some (.string ⟨l.toArray⟩))(hlo:ev env lo=some (.int k j1))(hhi:ev env hi=some (.int k' j2))(e1:j1=(a:Int))(e2:j2=(h:Int))(h1:a≤h∧h≤l.length):Det C W env ⟨ds,.slice t x (some lo) (some hi) none,ty,pos,af,gd⟩ (.string ⟨((l.drop a).take (h-a)).toArray⟩):=⟨fun ac w he _=>by
  subst e1;subst e2
  have e:=str_extract l a h
  have h3:(a:Int)≤(h:Int):=by omega
  simp [execOp,he.ev hx,he.ev hlo,he.ev hhi,Instr.sliceAt,run_underlying ht.und,Instr.slice,Instr.sliceBounds,Instr.sliceBound,asIntOf,h1.1,h1.2,str_size,e]⟩
theorem cat{l m:Bs}(hx:ev env x=some (.string ⟨l.toArray⟩))(hy:ev env y=some (.string ⟨m.toArray⟩))(hb:l.length+m.length≤9223372036854775807):Det C W env ⟨ds,.binOp .add t x y u,ty,pos,af,gd⟩ (.string ⟨(l++m).toArray⟩):=⟨fun ac w he _=>by
  have h3:IntKind.i64.max=9223372036854775807:=by decide
  have h2: ¬((l.length:Int)+(m.length:Int)>9223372036854775807):=by omega
  have h4:(l.length:Int)+(m.length:Int)≤9223372036854775807:=by omega
  simp [execOp,he.ev hx,he.ev hy,eqGuard,binOp,Op.stringOp,str_size,h3,h4,str_append]⟩
theorem strEq{l m:Bs}(hx:ev env x=some (.string ⟨l.toArray⟩))(hy:ev env y=some (.string ⟨m.toArray⟩)):Det C W env ⟨ds,.binOp .eql t x y u,ty,pos,af,gd⟩ (.bool (decide (l=m))):=⟨fun ac w he _=>by
  simp [execOp,he.ev hx,he.ev hy,eqGuard,binOp,Op.stringOp,bs_beq]⟩
theorem strNe{l m:Bs}(hx:ev env x=some (.string ⟨l.toArray⟩))(hy:ev env y=some (.string ⟨m.toArray⟩)):Det C W env ⟨ds,.binOp .neq t x y u,ty,pos,af,gd⟩ (.bool (decide (l≠m))):=⟨fun ac w he _=>by
  simp [execOp,he.ev hx,he.ev hy,eqGuard,binOp,Op.stringOp,bs_beq]⟩
theorem strLt{l m:Bs}(hx:ev env x=some (.string ⟨l.toArray⟩))(hy:ev env y=some (.string ⟨m.toArray⟩)):Det C W env ⟨ds,.binOp .lss t x y u,ty,pos,af,gd⟩ (.bool (decide (Op.bytesLess l m=true))):=⟨fun ac w he _=>by
  simp [execOp,he.ev hx,he.ev hy,eqGuard,binOp,Op.stringOp]⟩
theorem toStr{e n c:Nat}{a:Option Addr}(l:Bs) [h1:SlT C.P t e] [h2:IntT C.P e .u8] [h3:StrT C.P t2](hx:ev env x=some (.slice a n c))(hn:l.length=n)(hr:∀ w,W w→Rd w 1 a n c (encY l)):Det C W env ⟨ds,.convert t t2 x,ty,pos,af,gd⟩ (.string ⟨l.toArray⟩):=⟨fun ac w he hw=>by
  subst hn
  have hrd:=hr w hw
  cases a with
  |none=>
    have h0:l=[]:=by
      rcases Nat.eq_zero_or_pos l.length with h|h
      · exact List.length_eq_zero_iff.1 h
      · have:=hrd.sm h;simp at this
    subst h0
    simp [execOp,he.ev hx,run_convert_bytes_string w t t2 e none 0 c h1.und h2.und h3.und,Conv.bytesToString]
    rfl
  |some p=>
    have:=run_convert_bytes_back (P:=C.P) w t t2 e p c l h1.und h2.und h3.und (fun j hj=>hrd.cell j _ (by rw [encY_map,List.getElem?_map,List.getElem?_eq_getElem hj];rfl))
    simp [execOp,he.ev hx,this]⟩
theorem convN{a:Nat} [h1:IntT C.P t k'] [h2:IntT C.P t2 k](hk:k.signed=false)(hx:ev env x=some (.int k' (a:Int))):Det C W env ⟨ds,.convert t t2 x,ty,pos,af,gd⟩ (.int k ((a%2^k.bits:Nat):Int)):=by
  have:=D.conv (C:=C) (W:=W) (ds:=ds) (ty:=ty) (pos:=pos) (af:=af) (gd:=gd) (t:=t) (t2:=t2) (k:=k) (k':=k') hx
  rwa [wrapN hk] at this
theorem conv64{a:Nat} [h1:IntT C.P t k'] [h2:IntT C.P t2 .i64](hx:ev env x=some (.int k' (a:Int)))(ha:a<9223372036854775808):Det C W env ⟨ds,.convert t t2 x,ty,pos,af,gd⟩ (.int .i64 (a:Int)):=by
  have:=D.conv (C:=C) (W:=W) (ds:=ds) (ty:=ty) (pos:=pos) (af:=af) (gd:=gd) (t:=t) (t2:=t2) (k:= .i64) (k':=k') hx
  rwa [D.wrap64_fit (by omega)] at this
theorem shrN{a b:Nat}(hx:ev env x=some (.int k (a:Int)))(hy:ev env y=some (.int k' (b:Int)))(hb:b≤k.bits):Det C W env ⟨ds,.binOp .shr t x y u,ty,pos,af,gd⟩ (.int k ((a/2^b:Nat):Int)):=by
  have:=D.shr (C:=C) (W:=W) (ds:=ds) (ty:=ty) (pos:=pos) (af:=af) (gd:=gd) (t:=t) (u:=u) hx hy (by omega)
  rw [Int.toNat_natCast,Nat.min_eq_left hb,Int.fdiv_eq_ediv_of_nonneg _ (Int.pow_nonneg (by decide))] at this
  have e:((a:Int)/2^b)=((a/2^b:Nat):Int):=by simp
  rwa [e] at this
theorem shlN{a b:Nat}(hk:k.signed=false)(hx:ev env x=some (.int k (a:Int)))(hy:ev env y=some (.int k' (b:Int)))(hb:b≤k.bits):Det C W env ⟨ds,.binOp .shl t x y u,ty,pos,af,gd⟩ (.int k ((a*2^b%2^k.bits:Nat):Int)):=by
  have:=D.shl (C:=C) (W:=W) (ds:=ds) (ty:=ty) (pos:=pos) (af:=af) (gd:=gd) (t:=t) (u:=u) hx hy (by omega)
  rw [Int.toNat_natCast,Nat.min_eq_left hb] at this
  have e:((a:Int)*2^b)=((a*2^b:Nat):Int):=by simp
  rwa [e,wrapN hk] at this
theorem bits{op:BinOp}{f:{n:Nat}→BitVec n→BitVec n→BitVec n}{a b r:Nat}(hk:k.signed=false)(hx:ev env x=some (.int k (a:Int)))(hy:ev env y=some (.int k (b:Int)))(hop:(op= .and∧ @f=fun {n} x y=>x&&&y)∨(op= .or∧ @f=fun {n} x y=>x|||y)∨(op= .xor∧ @f=fun {n} x y=>x^^^y)∨(op= .andNot∧ @f=fun {n} x y=>x&&& ~~~y))
    (hr:(f (BitVec.ofNat k.bits a) (BitVec.ofNat k.bits b)).toNat=r):Det C W env ⟨ds,.binOp op t x y u,ty,pos,af,gd⟩ (.int k (r:Int)):=⟨fun ac w he _=>by
  subst hr
  have hw:∀ v:BitVec k.bits,k.wrap (v.toNat:Int)=(v.toNat:Int):=fun v=>wrapN_fit hk v.isLt
  rcases hop with⟨rfl,rfl⟩|⟨rfl,rfl⟩|⟨rfl,rfl⟩|⟨rfl,rfl⟩<;>simp only [execOp,he.ev hx,he.ev hy]<;>simp [eqGuard,binOp,Op.intBits,-BitVec.toNat_and,-BitVec.toNat_or,-BitVec.toNat_xor,-BitVec.toNat_ofNat]<;>exact hw _⟩
theorem xorN{a b:Nat}(hk:k.signed=false)(hx:ev env x=some (.int k (a:Int)))(hy:ev env y=some (.int k (b:Int)))(hb:a<2^k.bits∧b<2^k.bits):Det C W env ⟨ds,.binOp .xor t x y u,ty,pos,af,gd⟩ (.int k ((a^^^b:Nat):Int)):=
  bits (f:=fun {n} x y=>x^^^y) hk hx hy (.inr (.inr (.inl ⟨rfl,rfl⟩))) (by simp [Nat.mod_eq_of_lt hb.1,Nat.mod_eq_of_lt hb.2])
theorem orN{a b:Nat}(hk:k.signed=false)(hx:ev env x=some (.int k (a:Int)))(hy:ev env y=some (.int k (b:Int)))(hb:a<2^k.bits∧b<2^k.bits):Det C W env ⟨ds,.binOp .or t x y u,ty,pos,af,gd⟩ (.int k ((a|||b:Nat):Int)):=
  bits (f:=fun {n} x y=>x|||y) hk hx hy (.inr (.inl ⟨rfl,rfl⟩)) (by simp [Nat.mod_eq_of_lt hb.1,Nat.mod_eq_of_lt hb.2])
theorem andN{a b:Nat}(hk:k.signed=false)(hx:ev env x=some (.int k (a:Int)))(hy:ev env y=some (.int k (b:Int)))(hb:a<2^k.bits∧b<2^k.bits):Det C W env ⟨ds,.binOp .and t x y u,ty,pos,af,gd⟩ (.int k ((a&&&b:Nat):Int)):=
  bits (f:=fun {n} x y=>x&&&y) hk hx hy (.inl ⟨rfl,rfl⟩) (by simp [Nat.mod_eq_of_lt hb.1,Nat.mod_eq_of_lt hb.2])
theorem andNotN{a b:Nat}(hk:k.signed=false)(hx:ev env x=some (.int k (a:Int)))(hy:ev env y=some (.int k (b:Int)))(hb:a<2^k.bits∧b<2^k.bits):Det C W env ⟨ds,.binOp .andNot t x y u,ty,pos,af,gd⟩ (.int k ((a&&&(2^k.bits-1-b):Nat):Int)):=
  bits (f:=fun {n} x y=>x&&& ~~~y) hk hx hy (.inr (.inr (.inr ⟨rfl,rfl⟩))) (by simp [Nat.mod_eq_of_lt hb.1,Nat.mod_eq_of_lt hb.2])
theorem notN{a:Nat}(hk:k.signed=false)(hx:ev env x=some (.int k (a:Int)))(ha:a<2^k.bits):Det C W env ⟨ds,.unOp .xor t x,ty,pos,af,gd⟩ (.int k ((2^k.bits-1-a:Nat):Int)):=⟨fun ac w he _=>by
  have hm:k.max=((2^k.bits-1:Nat):Int):=by cases k<;>simp [IntKind.signed] at hk<;>decide
  have hx':(BitVec.ofNat k.bits (2^k.bits-1)^^^BitVec.ofNat k.bits a).toNat=2^k.bits-1-a:=by
    have e:BitVec.ofNat k.bits (2^k.bits-1)=BitVec.allOnes k.bits:=by simp [BitVec.allOnes,BitVec.ofNatLT_eq_ofNat]
    rw [e,BitVec.allOnes_xor,BitVec.toNat_not]
    simp [Nat.mod_eq_of_lt ha]
  simp only [execOp,he.ev hx]
  simp only [Op.unary,hk,Bool.false_eq_true,if_false,hm,Op.intBits,ofInt_nat,hx',wrapN_fit hk (show 2^k.bits-1-a<2^k.bits by omega)]
  simp⟩
theorem negN{a:Nat}(hk:k.signed=false)(hx:ev env x=some (.int k (a:Int)))(ha:a<2^k.bits):Det C W env ⟨ds,.unOp .neg t x,ty,pos,af,gd⟩ (.int k (((2^k.bits-a)%2^k.bits:Nat):Int)):=⟨fun ac w he _=>by
  have e:k.wrap (0-(a:Int))=(((2^k.bits-a)%2^k.bits:Nat):Int):=by
    rw [←wrapN hk]
    simp only [IntKind.wrap,hk]
    have:(0-(a:Int))%2^k.bits=((2^k.bits-a:Nat):Int)%2^k.bits:=by
      rw [Int.ofNat_sub (by omega)]
      simp [Int.sub_emod]
    rw [this]
  simp only [execOp,he.ev hx]
  simp only [Op.unary,Op.intArith,e]
  simp⟩
theorem mulN{a b:Nat}(hk:k.signed=false)(hx:ev env x=some (.int k (a:Int)))(hy:ev env y=some (.int k (b:Int)))(h:a*b<2^k.bits):Det C W env ⟨ds,.binOp .mul t x y u,ty,pos,af,gd⟩ (.int k ((a*b:Nat):Int)):=
  D.int hx hy (by simp only [intBin];rw [←Int.natCast_mul,wrapN_fit hk h])
theorem subN{a b:Nat}(hk:k.signed=false)(hx:ev env x=some (.int k (a:Int)))(hy:ev env y=some (.int k (b:Int)))(h:b≤a∧a<2^k.bits):Det C W env ⟨ds,.binOp .sub t x y u,ty,pos,af,gd⟩ (.int k ((a-b:Nat):Int)):=
  D.int hx hy (by simp only [intBin];rw [←Int.ofNat_sub h.1,wrapN_fit hk (by omega)])
theorem remN{a b:Nat}(hx:ev env x=some (.int k (a:Int)))(hy:ev env y=some (.int k (b:Int)))(hb:0<b):Det C W env ⟨ds,.binOp .rem t x y u,ty,pos,af,gd⟩ (.int k ((a%b:Nat):Int)):=by
  have:=D.rem (C:=C) (W:=W) (ds:=ds) (ty:=ty) (pos:=pos) (af:=af) (gd:=gd) (t:=t) (u:=u) hx hy (by omega)
  rwa [Int.tmod_eq_emod_of_nonneg (by omega),←Int.natCast_emod] at this
end D
end Go.Lx
namespace Go.Lx
abbrev Sd.a (i:Nat) (r:Sd):Sd:= .op .v0 i r
abbrev Sd.b (i:Nat) (r:Sd):Sd:= .op .v1 i r
abbrev Sd.c (i:Nat) (r:Sd):Sd:= .op .ch i r
abbrev Sd.f (i:Nat) (r:Sd):Sd:= .op .fin i r
abbrev Sd.n:Sd:= .nil
def Sd.tx:Nat→Nat→Sd
  |0,_=> .nil
  |n+1,k=> .op .fin k (Sd.tx n (Nat.succ k))
theorem Sd.tx_eq:∀ (n k:Nat),Sd.text n k=Sd.tx n k
  |0,_=>rfl
  |n+1,k=>congrArg (Sd.op .fin k) (Sd.tx_eq n (k+1))
section
variable {C:Cx} {A A' As:List Assn} {Q:Exit→Act→World→Prop} {S:World→Prop} {env:Env} {ops:Array Oper} {r:Sd} {i d:Nat} {v:Value} {cl:Cl} {x y z:Operand} {t u:TypeId} {op:Op}
def puV (env:Env):Op→Option Value
  | .move x=>ev env x
  | .assign x=>ev env x
  | .nilCheck x=>match ev env x with
    |some (.pointer (some p))=>some (.pointer (some p))
    |_=>none
  | .extract x ix=>match ev env x with
    |some (.tuple vs)=>vs.toList[ix]?
    |_=>none
  | .unOp .not _ x=>match ev env x with
    |some (.bool c)=>some (.bool !c)
    |_=>none
  | .pick x y z=>match ev env x with
    |some (.bool true)=>ev env y
    |some (.bool false)=>ev env z
    |_=>none
  |_=>none
def pu (n:Nat) (ops:Array Oper) (env:Env) (i:Nat):Option (Nat×Value):=
  match ops[i]? with
  |none=>none
  |some o=>match o.dst with
    |none=>none
    |some d=>match Nat.blt d n with
      |false=>none
      |true=>match gok ops env o with
        |some false=>some (d,undef)
        |some true=>match puV env o.op with
          |some v=>some (d,v)
          |none=>none
        |none=>none
def nx (n:Nat) (ops:Array Oper) (env:Env) (i:Nat):Option (Nat×Op):=
  match ops[i]? with
  |none=>none
  |some o=>match o.dst with
    |none=>none
    |some d=>match Nat.blt d n with
      |false=>none
      |true=>match gok ops env o with
        |some true=>some (d,o.op)
        |_=>none
theorem nx_spec{n:Nat}(h:nx n ops env i=some (d,op)):∃ ty pos af gd,ops[i]?=some ⟨some d,op,ty,pos,af,gd⟩∧gok ops env ⟨some d,op,ty,pos,af,gd⟩=some true∧Nat.blt d n=true:=by
  unfold nx at h
  split at h
  · cases h
  · rename_i o ho
    split at h
    · cases h
    · rename_i d' hd
      split at h
      · cases h
      · rename_i hb
        split at h
        · rename_i hg
          cases h
          obtain⟨ds,op,ty,pos,af,gd⟩:=o
          cases hd
          exact⟨ty,pos,af,gd,ho,hg,hb⟩
        · cases h
theorem puV_det{o:Oper}(h:puV env o.op=some v){W:World→Prop}:Det C W env o v:=by
  obtain⟨ds,op,ty,pos,af,gd⟩:=o
  dsimp only at h
  unfold puV at h
  split at h
  · exact D.move h
  · exact D.assign h
  · rename_i x
    split at h
    · rename_i p hx;cases h;exact D.nilCheck hx
    · cases h
  · rename_i x ix
    split at h
    · rename_i vs hx
      exact D.extract hx (by simpa using h)
    · cases h
  · rename_i x
    split at h
    · rename_i c hx;cases h;exact D.not hx
    · cases h
  · rename_i x y z
    split at h
    · rename_i hx;exact D.pickT hx h
    · rename_i hx;exact D.pickF hx h
    · cases h
  · cases h
theorem pu_spec{n:Nat}(h:pu n ops env i=some (d,v)):∃ o,ops[i]?=some o∧o.dst=some d∧Nat.blt d n=true∧((gok ops env o=some false∧v=undef)∨(gok ops env o=some true∧puV env o.op=some v)):=by
  unfold pu at h
  split at h
  · cases h
  · rename_i o ho
    split at h
    · cases h
    · rename_i d' hd
      split at h
      · cases h
      · rename_i hb
        split at h
        · rename_i hg;cases h;exact⟨o,ho,hd,hb,.inl ⟨hg,rfl⟩⟩
        · rename_i hg
          split at h
          · rename_i v' hv;cases h;exact⟨o,ho,hd,hb,.inr ⟨hg,hv⟩⟩
          · cases h
        · cases h
class Nc (cl:Cl):Prop where ne:cl≠ .ch
instance:Nc .v0:=⟨by simp⟩
instance:Nc .v1:=⟨by simp⟩
instance:Nc .fin:=⟨by simp⟩
theorem XL.dt [h:Nc cl](hn:nx C.n.n ops env i=some (d,op))(hd:∀ ty pos af gd,Det C (fun _=>True) env ⟨some d,op,ty,pos,af,gd⟩ v)(k:XL C ops Q S r ((d,v)::env) A):XL C ops Q S (.op cl i r) env A:=by
  obtain⟨ty,pos,af,gd,ho,hg,hb⟩:=nx_spec hn
  cases cl with
  |v0=>exact XL.det0 ho hg rfl hb (hd _ _ _ _) k
  |v1=>exact XL.det1 ho hg rfl hb ⟨fun a w he _=>(hd _ _ _ _).go a w he trivial⟩ k
  |fin=>exact Qm ho hg rfl hb (hd _ _ _ _) k
  |ch=>exact absurd rfl h.ne
class Rl (cl:Cl) (C:Cx) (S:World→Prop) (A:List Assn) (As:outParam (List Assn)):Prop where ok:(cl= .fin∧As=A)∨(cl= .v1∧∀ w,S w→Conf C As w)
instance:Rl .fin C S A A:=⟨.inl ⟨rfl,rfl⟩⟩
instance:Rl .v1 C (fun w=>Conf C As w) A As:=⟨.inr ⟨rfl,fun w h=>h⟩⟩
theorem XL.ld [h:Rl cl C S A As](hn:nx C.n.n ops env i=some (d,op))(hd:∀ ty pos af gd,Det C (fun w=>Conf C As w) env ⟨some d,op,ty,pos,af,gd⟩ v)(k:XL C ops Q S r ((d,v)::env) A):XL C ops Q S (.op cl i r) env A:=by
  obtain⟨ty,pos,af,gd,ho,hg,hb⟩:=nx_spec hn
  rcases h.ok with⟨rfl,rfl⟩|⟨rfl,hS⟩
  · exact Qu ho hg rfl hb (hd _ _ _ _) k
  · exact XL.det1 ho hg rfl hb ⟨fun a w he hw=>(hd _ _ _ _).go a w he (hS w hw)⟩ k
theorem X.tx{id:Nat}{ops:Array Oper} [hQ:NoPanic Q](hnd:noDefer ops=true)(h:XL C ops Q (fun _=>True) (Sd.tx ops.size 0) env A):X C (.region id ops false) Q env A:=X.text (Sd.tx_eq _ _) hnd h
theorem no_{a b:Bool}{p:Prop}(h:a=b)(e:(a==b)=false):p:=by subst h;cases a<;>cases e
section
variable {c e:Code} {id:Nat}
theorem Qf(h:X C e Q env A):XL C ops (Exit.then (e.wpIn (fen C.n) 9 C.P Q) Q) S .nil env A:=XL.nil (N.next h)
theorem X.st{ops:Array Oper} [hQ:NoPanic (Exit.then (e.wpIn (fen C.n) 9 C.P Q) Q)](hnd:noDefer ops=true)(h:XL C ops (Exit.then (e.wpIn (fen C.n) 9 C.P Q) Q) (fun _=>True) (Sd.tx ops.size 0) env A):X C (.seq (.region id ops false) e) Q env A:=X.seq (X.text (Sd.tx_eq _ _) hnd h)
theorem X.sd{ops:Array Oper} [hQ:NoPanic (Exit.then (e.wpIn (fen C.n) 9 C.P Q) Q)](σ:Sd)(hm:C.P.follows .mixedOrders=true)(hok:(noDefer ops&&schedOk ops σ)=true)(h:XL C ops (Exit.then (e.wpIn (fen C.n) 9 C.P Q) Q) (fun w=>Conf C A w) σ env A):X C (.seq (.region id ops true) e) Q env A:=X.seq (X.draw σ hm hok h)
class Pk (Q:Exit→Act→World→Prop) (Q':outParam (Exit→Act→World→Prop)):Prop where up:∀ {C env A},Rt C Q' env A→Rt C Q env A
instance {P:Program} {fn:Func} {w0:World} {H:Nat→Prop} {R:Value→List Assn→Prop}:Pk (Post P fn w0 H R) (Post P fn w0 H R):=⟨fun k=>k⟩
instance {K:Act→World→Prop} {Q Q':Exit→Act→World→Prop} [h:Pk Q Q']:Pk (Exit.then K Q) Q':=⟨fun k=>Rt.then (h.up k)⟩
instance {i:Nat} {Q Q':Exit→Act→World→Prop} [h:Pk Q Q']:Pk (Exit.inBlock i Q) Q':=⟨fun k=>Rt.block (h.up k)⟩
class Rc (P:Program) (t:TypeId) (cs:List Value) (v:outParam Value):Prop where ok:((∀ w,(isAgg t).run P w= .ok true w)∧(∀ w,(sizeOf t).run P w= .ok cs.length w)∧v= .agg cs.toArray)∨((∀ w,(isAgg t).run P w= .ok false w)∧cs=[v])
instance {P:Program} {t n:Nat} {cs:List Value} [h1:Ag P t] [h2:Sz P t n] [h3:Len cs n]:Rc P t cs (.agg cs.toArray):=⟨.inl ⟨h1.agg,by rw [h3.eq];exact h2.run,rfl⟩⟩
theorem RV.of{b t g T' j:Nat}{cs:List Value}(h:env.lookup b=some (.pointer (some ⟨g,0,none⟩))) [hl:Loc A g cs T' j] [hc:Rc C.P t cs v]:RV C env A (.cell b t) v:=by
  intro a w he hw
  rcases hc.ok with⟨h1,h2,rfl⟩|⟨h1,rfl⟩
  · have:=run_loadCells_list (P:=C.P) w ⟨g,0,none⟩ cs (fun j u hu=>by rw [at_add,Nat.zero_add];exact hw.cellAt hl.at_ hu)
    simp [he.getD h,asAddr,loadVar,h1,h2,this]
  · simp [he.getD h,asAddr,loadVar,h1,hw.cellAt (o:=0) hl.at_ rfl]
variable {P:Program} {fn:Func} {w0:World} {H:Nat→Prop} {R:Value→List Assn→Prop} {n:Nat} {ro:Option Nat} {B:List Assn} {q1 q2 q3:ResultVar} {v2 v3:Value}
theorem X.r0 [hp:Pk Q (Post P fn w0 H R)](h:fn.results=#[])(hR:R (.tuple #[]) B)(hA:∀ w,Conf ⟨P,⟨n,none,ro⟩,w0,H⟩ A w→Conf ⟨P,⟨n,none,ro⟩,w0,H⟩ B w):X ⟨P,⟨n,none,ro⟩,w0,H⟩ .ret Q env A:=X.ret (hp.up (Rt.done (Res.r0 h) hR hA))
theorem X.r1 [hp:Pk Q (Post P fn w0 H R)](h:fn.results=#[q1])(h1:RV ⟨P,⟨n,none,ro⟩,w0,H⟩ env A q1 v)(hR:R v B)(hA:∀ w,Conf ⟨P,⟨n,none,ro⟩,w0,H⟩ A w→Conf ⟨P,⟨n,none,ro⟩,w0,H⟩ B w):X ⟨P,⟨n,none,ro⟩,w0,H⟩ .ret Q env A:=X.ret (hp.up (Rt.done (Res.r1 h h1) hR hA))
theorem X.r2 [hp:Pk Q (Post P fn w0 H R)](h:fn.results=#[q1,q2])(h1:RV ⟨P,⟨n,none,ro⟩,w0,H⟩ env A q1 v)(h2:RV ⟨P,⟨n,none,ro⟩,w0,H⟩ env A q2 v2)(hR:R (.tuple #[v,v2]) B)(hA:∀ w,Conf ⟨P,⟨n,none,ro⟩,w0,H⟩ A w→Conf ⟨P,⟨n,none,ro⟩,w0,H⟩ B w):X ⟨P,⟨n,none,ro⟩,w0,H⟩ .ret Q env A:=X.ret (hp.up (Rt.done (Res.r2 h h1 h2) hR hA))
theorem X.r3 [hp:Pk Q (Post P fn w0 H R)](h:fn.results=#[q1,q2,q3])(h1:RV ⟨P,⟨n,none,ro⟩,w0,H⟩ env A q1 v)(h2:RV ⟨P,⟨n,none,ro⟩,w0,H⟩ env A q2 v2)(h3:RV ⟨P,⟨n,none,ro⟩,w0,H⟩ env A q3 v3)(hR:R (.tuple #[v,v2,v3]) B)(hA:∀ w,Conf ⟨P,⟨n,none,ro⟩,w0,H⟩ A w→Conf ⟨P,⟨n,none,ro⟩,w0,H⟩ B w):X ⟨P,⟨n,none,ro⟩,w0,H⟩ .ret Q env A:=X.ret (hp.up (Rt.done (Res.r3 h h1 h2 h3) hR hA))
end
namespace Z
theorem p [h:Nc cl](hp:pu C.n.n ops env i=some (d,v))(k:XL C ops Q S r ((d,v)::env) A):XL C ops Q S (.op cl i r) env A:=by
  obtain⟨o,ho,hd,hb,h1⟩:=pu_spec hp
  rcases h1 with⟨hg,rfl⟩|⟨hg,hv⟩
  · cases cl with
    |v0=>exact XL.skip0 ho hg hd hb k
    |v1=>exact XL.skip1 ho hg hd hb k
    |fin=>exact XL.skipF ho hg hd hb k
    |ch=>exact absurd rfl h.ne
  · cases cl with
    |v0=>exact XL.det0 ho hg hd hb (puV_det hv) k
    |v1=>exact XL.det1 ho hg hd hb (puV_det hv) k
    |fin=>exact Qm ho hg hd hb (puV_det hv) k
    |ch=>exact absurd rfl h.ne
def bi (n:Nat) (ops:Array Oper) (env:Env) (i:Nat):Option (Nat×Value):=
  match nx n ops env i with
  |some (d,.binOp op _ x y _)=>match ev env x with
    |some (.int k a)=>match ev env y with
      |some (.int k' b)=>match decide (k=k') with
        |true=>match D.intBin op k a b with
          |some v=>some (d,v)
          |none=>none
        |false=>none
      |_=>none
    |_=>none
  |_=>none
theorem bi_spec{n:Nat}(h:bi n ops env i=some (d,v)):∃ op,nx n ops env i=some (d,op)∧∀ {C:Cx} ty pos af gd,Det C (fun _=>True) env ⟨some d,op,ty,pos,af,gd⟩ v:=by
  unfold bi at h
  split at h
  · rename_i d' op t x y u hn
    split at h
    · rename_i k a hx
      split at h
      · rename_i k' b hy
        split at h
        · rename_i hk
          have hk':k=k':=of_decide_eq_true hk
          subst hk'
          split at h
          · rename_i v' hv
            cases h
            exact⟨_,hn,fun ty pos af gd=>D.int hx hy hv⟩
          · cases h
        · cases h
      · cases h
    · cases h
  · cases h
theorem w [Nc cl](h:bi C.n.n ops env i=some (d,v))(k:XL C ops Q S r ((d,v)::env) A):XL C ops Q S (.op cl i r) env A:=by
  obtain⟨op,hn,hd⟩:=bi_spec h
  exact XL.dt hn hd k
theorem ct [Nc cl]{p:Prop} [Decidable p](h:bi C.n.n ops env i=some (d,.bool (decide p)))(hp:p)(k:XL C ops Q S r ((d,.bool true)::env) A):XL C ops Q S (.op cl i r) env A:=
  Z.w (by rw [h];simp [hp]) k
theorem cf [Nc cl]{p:Prop} [Decidable p](h:bi C.n.n ops env i=some (d,.bool (decide p)))(hp: ¬p)(k:XL C ops Q S r ((d,.bool false)::env) A):XL C ops Q S (.op cl i r) env A:=
  Z.w (by rw [h];simp [hp]) k
theorem cs [Nc cl]{p:Prop} [Decidable p](h:bi C.n.n ops env i=some (d,.bool (decide p)))(k:p→XL C ops Q S r ((d,.bool true)::env) A)(k': ¬p→XL C ops Q S r ((d,.bool false)::env) A):XL C ops Q S (.op cl i r) env A:=by
  by_cases hp:p
  · exact Z.ct h hp (k hp)
  · exact Z.cf h hp (k' hp)
def ar (n:Nat) (ops:Array Oper) (env:Env) (i:Nat):Option (Nat×Int×Prop):=
  match nx n ops env i with
  |some (d,.binOp op _ x y _)=>match ev env x with
    |some (.int .i64 a)=>match ev env y with
      |some (.int .i64 b)=>match op with
        | .add=>some (d,a+b,-9223372036854775808≤a+b∧a+b≤9223372036854775807)
        | .sub=>some (d,a-b,-9223372036854775808≤a-b∧a-b≤9223372036854775807)
        | .mul=>some (d,a*b,-9223372036854775808≤a*b∧a*b≤9223372036854775807)
        |_=>none
      |_=>none
    |_=>none
  |_=>none
theorem g [Nc cl]{n:Int}{p:Prop}(h:ar C.n.n ops env i=some (d,n,p))(hp:p)(k:XL C ops Q S r ((d,.int .i64 n)::env) A):XL C ops Q S (.op cl i r) env A:=by
  unfold ar at h
  split at h
  · rename_i d' op t x y u hn
    split at h
    · rename_i a hx
      split at h
      · rename_i b hy
        split at h
        · cases h;exact XL.dt hn (fun ty pos af gd=>D.add64 hx hy hp) k
        · cases h;exact XL.dt hn (fun ty pos af gd=>D.sub64 hx hy hp) k
        · cases h;exact XL.dt hn (fun ty pos af gd=>D.mul64 hx hy hp) k
        · cases h
      · cases h
    · cases h
  · cases h
theorem rem [Nc cl]{kk:IntKind}{a b:Int}(hn:nx C.n.n ops env i=some (d,.binOp .rem t x y u))(hx:ev env x=some (.int kk a))(hy:ev env y=some (.int kk b))(hb:b≠0)(k:XL C ops Q S r ((d,.int kk (a.tmod b))::env) A):XL C ops Q S (.op cl i r) env A:=
  XL.dt hn (fun ty pos af gd=>D.rem hx hy hb) k
theorem quo [Nc cl]{kk:IntKind}{a b:Int}(hn:nx C.n.n ops env i=some (d,.binOp .quo t x y u))(hx:ev env x=some (.int kk a))(hy:ev env y=some (.int kk b))(hb:b≠0)(k:XL C ops Q S r ((d,.int kk (kk.wrap (a.tdiv b)))::env) A):XL C ops Q S (.op cl i r) env A:=
  XL.dt hn (fun ty pos af gd=>D.quo hx hy hb) k
class Pl (p:Addr) (off:Nat) (q:outParam Addr):Prop where eq:p.add off=q
instance (priority:=400) {g o off:Nat}:Pl ⟨g,o,none⟩ off ⟨g,o+off,none⟩:=⟨at_add g o off⟩
instance (priority:=300) {a:Option Addr} {o off:Nat}:Pl (el a o) off (el a (o+off)):=⟨el_add a o off⟩
instance (priority:=500) {p:Addr}:Pl p 0 p:=⟨at_zero p⟩
theorem fa [Nc cl]{p q:Addr}{f off ft sz:Nat}(hn:nx C.n.n ops env i=some (d,.fieldAddr t x f))(hx:ev env x=some (.pointer (some p))) [h1:Fld C.P t f off ft] [hs:Sz C.P ft sz] [hq:Pl p off q](hz:(sz==0)=false)(k:XL C ops Q S r ((d,.pointer (some q))::env) A):XL C ops Q S (.op cl i r) env A:=
  XL.dt hn (fun ty pos af gd=>by rw [←hq.eq];exact D.fieldAddr hz hx) k
theorem fN [Nc cl]{cs:Array Value}{f off ft sz:Nat}(hn:nx C.n.n ops env i=some (d,.field t x f))(hx:ev env x=some (.agg cs)) [h1:Fld C.P t f off ft] [h2:Ag C.P ft] [h3:Sz C.P ft sz](k:XL C ops Q S r ((d,.agg (cs.extract off (off+sz)))::env) A):XL C ops Q S (.op cl i r) env A:=
  XL.dt hn (fun ty pos af gd=>D.fieldN hx) k
theorem mf [Nc cl]{fn:Fn}{first captured:Array Operand}{fs cs:List Value}(hn:nx C.n.n ops env i=some (d,.makeFunc fn first captured))(h1:evs env first.toList=some fs)(h2:evs env captured.toList=some cs)(k:XL C ops Q S r ((d,.func fn fs.toArray cs.toArray)::env) A):XL C ops Q S (.op cl i r) env A:=
  XL.dt hn (fun ty pos af gd=>D.makeFunc h1 h2) k
theorem bd [Nc cl]{parts:Array (Nat×Operand)}{ps:List (Nat×Value)}{zs cs:List Value}{pl:List (Nat×Nat)}(hn:nx C.n.n ops env i=some (d,.build t parts))(hp:evps env parts.toList=some ps) [hst:StT C.P t pl zs] [hf:Fill pl zs ps cs](k:XL C ops Q S r ((d,.agg cs.toArray)::env) A):XL C ops Q S (.op cl i r) env A:=
  XL.dt hn (fun ty pos af gd=>D.build hp) k
theorem l1 [Rl cl C S A As]{g o T j:Nat}{cs:List Value}(hn:nx C.n.n ops env i=some (d,.load t x)) [h1:One C.P t](hx:ev env x=some (.pointer (some ⟨g,o,none⟩))) [hl:Loc As g cs T j](hv:cs[o]?=some v)(k:XL C ops Q S r ((d,v)::env) A):XL C ops Q S (.op cl i r) env A:=
  XL.ld hn (fun ty pos af gd=>D.load1 hx (fun w h=>h.cellAt hl.at_ hv)) k
theorem lN [Rl cl C S A As]{g T j sz:Nat}{cs:List Value}(hn:nx C.n.n ops env i=some (d,.load t x)) [h1:Ag C.P t] [hs:Sz C.P t sz](hx:ev env x=some (.pointer (some ⟨g,0,none⟩))) [hl:Loc As g cs T j](hlen:(cs.length==sz)=true)(k:XL C ops Q S r ((d,.agg cs.toArray)::env) A):XL C ops Q S (.op cl i r) env A:=
  XL.ld hn (fun ty pos af gd=>D.loadN hx hlen (fun w h j u hu=>by rw [at_add,Nat.zero_add];exact h.cellAt hl.at_ hu)) k
theorem lP [Rl cl C S A As]{g o T j sz:Nat}{cs cs':List Value}(hn:nx C.n.n ops env i=some (d,.load t x)) [h1:Ag C.P t] [hs:Sz C.P t sz](hx:ev env x=some (.pointer (some ⟨g,o,none⟩))) [hl:Loc As g cs T j] [hp:Part cs o sz cs'](hlen:(cs'.length==sz)=true)(k:XL C ops Q S r ((d,.agg cs'.toArray)::env) A):XL C ops Q S (.op cl i r) env A:=
  XL.ld hn (fun ty pos af gd=>D.loadP hx hlen) k
theorem cv [Nc cl]{t2:TypeId}{kk k':IntKind}{m:Int}(hn:nx C.n.n ops env i=some (d,.convert t t2 x)) [h1:IntT C.P t k'] [h2:IntT C.P t2 kk](hx:ev env x=some (.int k' m))(k:XL C ops Q S r ((d,.int kk (kk.wrap m))::env) A):XL C ops Q S (.op cl i r) env A:=
  XL.dt hn (fun ty pos af gd=>D.conv hx) k
theorem ln [Nc cl]{e n c:Nat}{ad:Option Addr}(hn:nx C.n.n ops env i=some (d,.call ⟨.builtin .len,#[x],#[t]⟩)) [h:SlT C.P t e](hx:ev env x=some (.slice ad n c))(k:XL C ops Q S r ((d,.int .i64 n)::env) A):XL C ops Q S (.op cl i r) env A:=
  XL.dt hn (fun ty pos af gd=>D.len hx) k
theorem lnL [Nc cl]{l:Bs}(hn:nx C.n.n ops env i=some (d,.call ⟨.builtin .len,#[x],#[t]⟩)) [h:StrT C.P t](hx:ev env x=some (.string ⟨l.toArray⟩))(k:XL C ops Q S r ((d,.int .i64 (l.length:Nat))::env) A):XL C ops Q S (.op cl i r) env A:=
  XL.dt hn (fun ty pos af gd=>D.lenL hx) k
theorem cap [Nc cl]{e n c:Nat}{ad:Option Addr}(hn:nx C.n.n ops env i=some (d,.call ⟨.builtin .cap,#[x],#[t]⟩)) [h:SlT C.P t e](hx:ev env x=some (.slice ad n c))(k:XL C ops Q S r ((d,.int .i64 c)::env) A):XL C ops Q S (.op cl i r) env A:=
  XL.dt hn (fun ty pos af gd=>D.cap hx) k
theorem mn [Nc cl]{ats:Array TypeId}{kk k':IntKind}{a b:Int}(hn:nx C.n.n ops env i=some (d,.call ⟨.builtin .min,#[x,y],ats⟩))(hx:ev env x=some (.int kk a))(hy:ev env y=some (.int k' b))(k:XL C ops Q S r ((d,.int kk (min a b))::env) A):XL C ops Q S (.op cl i r) env A:=
  XL.dt hn (fun ty pos af gd=>D.min2 hx hy) k
theorem mx [Nc cl]{ats:Array TypeId}{kk k':IntKind}{a b:Int}(hn:nx C.n.n ops env i=some (d,.call ⟨.builtin .max,#[x,y],ats⟩))(hx:ev env x=some (.int kk a))(hy:ev env y=some (.int k' b))(k:XL C ops Q S r ((d,.int kk (max a b))::env) A):XL C ops Q S (.op cl i r) env A:=
  XL.dt hn (fun ty pos af gd=>D.max2 hx hy) k
section
variable {k0 k1:IntKind} {a0 a1 b0 b1:Int}
theorem ne2 [Nc cl](hn:nx C.n.n ops env i=some (d,.binOp .neq t x y u)) [h:EqS C.P t [k0,k1]](hx:ev env x=some (.agg #[.int k0 a0,.int k1 a1]))(hy:ev env y=some (.agg #[.int k0 b0,.int k1 b1]))
    (k: ¬(a0=b0∧a1=b1)→XL C ops Q S r ((d,.bool true)::env) A) (k': ¬ ¬(a0=b0∧a1=b1)→XL C ops Q S r ((d,.bool false)::env) A):XL C ops Q S (.op cl i r) env A:=by
  by_cases hp:a0=b0∧a1=b1
  · exact XL.dt hn (fun ty pos af gd=>by have:=D.neS2 (C:=C) (W:=fun _=>True) (env:=env) (ty:=ty) (pos:=pos) (af:=af) (gd:=gd) (ds:=some d) (t:=t) (u:=u) hx hy;rwa [decide_eq_false (fun h=>h hp)] at this) (k' (fun h=>h hp))
  · exact XL.dt hn (fun ty pos af gd=>by have:=D.neS2 (C:=C) (W:=fun _=>True) (env:=env) (ty:=ty) (pos:=pos) (af:=af) (gd:=gd) (ds:=some d) (t:=t) (u:=u) hx hy;rwa [decide_eq_true hp] at this) (k hp)
end
theorem eqN [Nc cl]{e n c:Nat}{a:Option Addr}(hn:nx C.n.n ops env i=some (d,.binOp .eql t x y u)) [h:SlT C.P t e](hx:ev env x=some (.slice a n c))(hy:ev env y=some (.slice none 0 0))(k:XL C ops Q S r ((d,.bool a.isNone)::env) A):XL C ops Q S (.op cl i r) env A:=
  XL.dt hn (fun ty pos af gd=>D.eqNilS hx hy) k
theorem eqP [Nc cl]{e:Nat}{p:Option Addr}(hn:nx C.n.n ops env i=some (d,.binOp .eql t x y u)) [h:PtrT C.P t e](hx:ev env x=some (.pointer p))(hy:ev env y=some (.pointer none))(k:XL C ops Q S r ((d,.bool p.isNone)::env) A):XL C ops Q S (.op cl i r) env A:=
  XL.dt hn (fun ty pos af gd=>D.eqNilP hx hy) k
theorem neP [Nc cl]{e:Nat}{p:Option Addr}(hn:nx C.n.n ops env i=some (d,.binOp .neq t x y u)) [h:PtrT C.P t e](hx:ev env x=some (.pointer p))(hy:ev env y=some (.pointer none))(k:XL C ops Q S r ((d,.bool (!p.isNone))::env) A):XL C ops Q S (.op cl i r) env A:=
  XL.dt hn (fun ty pos af gd=>D.neNilP hx hy) k
end Z
end
end Go.Lx
namespace Go.Lx
open Go.Proofs
instance:IntT Tryz.prog 2 .i64:=⟨Tryz.underlying2⟩
instance:Sz Tryz.prog 3 1:=Sz.mk' (by kernel_rfl)
instance:IntT Tryz.prog 3 .i64:=⟨Tryz.underlying3⟩
instance:One Tryz.prog 3:=One.mk' Tryz.underlying3 rfl
instance:Zc Tryz.prog 3 [(.int .i64 0)]:=Zc.mk' (z:= .int .i64 0) (by kernel_rfl) rfl
instance:ElT Tryz.prog 3 1 8:=ElT.mk' (z:= .int .i64 0) (by kernel_rfl) rfl (by decide)
instance:Sz Tryz.prog 4 1:=Sz.mk' (by kernel_rfl)
instance:One Tryz.prog 4:=One.mk' Tryz.underlying4 rfl
instance:Sz Tryz.prog 5 1:=Sz.mk' (by kernel_rfl)
instance:IntT Tryz.prog 5 .u8:=⟨Tryz.underlying5⟩
instance:One Tryz.prog 5:=One.mk' Tryz.underlying5 rfl
instance:Zc Tryz.prog 5 [(.int .u8 0)]:=Zc.mk' (z:= .int .u8 0) (by kernel_rfl) rfl
instance:ElT Tryz.prog 5 1 1:=ElT.mk' (z:= .int .u8 0) (by kernel_rfl) rfl (by decide)
instance:Sz Tryz.prog 9 1:=Sz.mk' (by kernel_rfl)
instance:StrT Tryz.prog 9:=⟨Tryz.underlying9⟩
instance:One Tryz.prog 9:=One.mk' Tryz.underlying9 rfl
instance:Zc Tryz.prog 9 [(.string ByteArray.empty)]:=Zc.mk' (z:= .string ByteArray.empty) (by kernel_rfl) rfl
instance:ElT Tryz.prog 9 1 16:=ElT.mk' (z:= .string ByteArray.empty) (by kernel_rfl) rfl (by decide)
instance:PtrT Tryz.prog 23 110:=⟨Tryz.underlying23⟩
instance:One Tryz.prog 23:=One.mk' Tryz.underlying23 rfl
instance:Sz Tryz.prog 24 1:=Sz.mk' (by kernel_rfl)
instance:One Tryz.prog 24:=One.mk' Tryz.underlying24 rfl
instance:Zc Tryz.prog 24 [(.int .i64 0)]:=Zc.mk' (z:= .int .i64 0) (by kernel_rfl) rfl
instance:Sz Tryz.prog 27 1:=Sz.mk' (by kernel_rfl)
instance:IntT Tryz.prog 27 .u64:=⟨Tryz.underlying27⟩
instance:One Tryz.prog 27:=One.mk' Tryz.underlying27 rfl
instance:Zc Tryz.prog 27 [(.int .u64 0)]:=Zc.mk' (z:= .int .u64 0) (by kernel_rfl) rfl
instance:Sz Tryz.prog 28 1:=Sz.mk' (by kernel_rfl)
instance:SlT Tryz.prog 28 105:=⟨Tryz.underlying28⟩
instance:One Tryz.prog 28:=One.mk' Tryz.underlying28 rfl
instance:Zc Tryz.prog 28 [(.slice none 0 0)]:=Zc.mk' (z:= .slice none 0 0) (by kernel_rfl) rfl
instance:Sz Tryz.prog 29 1:=Sz.mk' (by kernel_rfl)
instance:SlT Tryz.prog 29 138:=⟨Tryz.underlying29⟩
instance:One Tryz.prog 29:=One.mk' Tryz.underlying29 rfl
instance:Sz Tryz.prog 31 8:=Sz.mk' (by kernel_rfl)
instance:Ag Tryz.prog 31:=Ag.mk' Tryz.underlying31 rfl
instance:Fld Tryz.prog 31 0 0 27:=Fld.mk' Tryz.underlying31 rfl
instance:Fld Tryz.prog 31 1 1 3:=Fld.mk' Tryz.underlying31 rfl
instance:Fld Tryz.prog 31 2 2 3:=Fld.mk' Tryz.underlying31 rfl
instance:Fld Tryz.prog 31 3 3 3:=Fld.mk' Tryz.underlying31 rfl
instance:Fld Tryz.prog 31 4 4 3:=Fld.mk' Tryz.underlying31 rfl
instance:Fld Tryz.prog 31 5 5 28:=Fld.mk' Tryz.underlying31 rfl
instance:Fld Tryz.prog 31 6 6 29:=Fld.mk' Tryz.underlying31 rfl
instance:Fld Tryz.prog 31 7 7 9:=Fld.mk' Tryz.underlying31 rfl
instance:Zc Tryz.prog 31 [(.int .u64 0),(.int .i64 0),(.int .i64 0),(.int .i64 0),(.int .i64 0),(.slice none 0 0),(.slice none 0 0),(.string ByteArray.empty)]:=Zc.mk' (z:= .agg #[(.int .u64 0),(.int .i64 0),(.int .i64 0),(.int .i64 0),(.int .i64 0),(.slice none 0 0),(.slice none 0 0),(.string ByteArray.empty)]) (by kernel_rfl) rfl
instance:StT Tryz.prog 31 [(0,1),(1,1),(2,1),(3,1),(4,1),(5,1),(6,1),(7,1)] [(.int .u64 0),(.int .i64 0),(.int .i64 0),(.int .i64 0),(.int .i64 0),(.slice none 0 0),(.slice none 0 0),(.string ByteArray.empty)]:=StT.mk' (z:= .agg #[(.int .u64 0),(.int .i64 0),(.int .i64 0),(.int .i64 0),(.int .i64 0),(.slice none 0 0),(.slice none 0 0),(.string ByteArray.empty)]) Tryz.underlying31 (by kernel_rfl) rfl (by kernel_rfl)
instance:Sz Tryz.prog 32 1:=Sz.mk' (by kernel_rfl)
instance:SlT Tryz.prog 32 3:=⟨Tryz.underlying32⟩
instance:One Tryz.prog 32:=One.mk' Tryz.underlying32 rfl
instance:Sz Tryz.prog 34 10:=Sz.mk' (by kernel_rfl)
instance:Ag Tryz.prog 34:=Ag.mk' Tryz.underlying34 rfl
instance:Fld Tryz.prog 34 0 0 31:=Fld.mk' Tryz.underlying34 rfl
instance:Fld Tryz.prog 34 1 8 3:=Fld.mk' Tryz.underlying34 rfl
instance:Fld Tryz.prog 34 2 9 32:=Fld.mk' Tryz.underlying34 rfl
instance:Zc Tryz.prog 34 [(.int .u64 0),(.int .i64 0),(.int .i64 0),(.int .i64 0),(.int .i64 0),(.slice none 0 0),(.slice none 0 0),(.string ByteArray.empty),(.int .i64 0),(.slice none 0 0)]:=Zc.mk' (z:= .agg #[(.int .u64 0),(.int .i64 0),(.int .i64 0),(.int .i64 0),(.int .i64 0),(.slice none 0 0),(.slice none 0 0),(.string ByteArray.empty),(.int .i64 0),(.slice none 0 0)]) (by kernel_rfl) rfl
instance:StT Tryz.prog 34 [(0,8),(8,1),(9,1)] [(.int .u64 0),(.int .i64 0),(.int .i64 0),(.int .i64 0),(.int .i64 0),(.slice none 0 0),(.slice none 0 0),(.string ByteArray.empty),(.int .i64 0),(.slice none 0 0)]:=StT.mk' (z:= .agg #[(.int .u64 0),(.int .i64 0),(.int .i64 0),(.int .i64 0),(.int .i64 0),(.slice none 0 0),(.slice none 0 0),(.string ByteArray.empty),(.int .i64 0),(.slice none 0 0)]) Tryz.underlying34 (by kernel_rfl) rfl (by kernel_rfl)
instance:Sz Tryz.prog 38 1:=Sz.mk' (by kernel_rfl)
instance:SlT Tryz.prog 38 154:=⟨Tryz.underlying38⟩
instance:One Tryz.prog 38:=One.mk' Tryz.underlying38 rfl
instance:Sz Tryz.prog 39 1:=Sz.mk' (by kernel_rfl)
instance:SlT Tryz.prog 39 103:=⟨Tryz.underlying39⟩
instance:One Tryz.prog 39:=One.mk' Tryz.underlying39 rfl
instance:Sz Tryz.prog 41 7:=Sz.mk' (by kernel_rfl)
instance:Ag Tryz.prog 41:=Ag.mk' Tryz.underlying41 rfl
instance:Fld Tryz.prog 41 0 0 27:=Fld.mk' Tryz.underlying41 rfl
instance:Fld Tryz.prog 41 1 1 3:=Fld.mk' Tryz.underlying41 rfl
instance:Fld Tryz.prog 41 2 2 3:=Fld.mk' Tryz.underlying41 rfl
instance:Fld Tryz.prog 41 3 3 3:=Fld.mk' Tryz.underlying41 rfl
instance:Fld Tryz.prog 41 4 4 38:=Fld.mk' Tryz.underlying41 rfl
instance:Fld Tryz.prog 41 5 5 39:=Fld.mk' Tryz.underlying41 rfl
instance:Fld Tryz.prog 41 6 6 9:=Fld.mk' Tryz.underlying41 rfl
instance:Zc Tryz.prog 41 [(.int .u64 0),(.int .i64 0),(.int .i64 0),(.int .i64 0),(.slice none 0 0),(.slice none 0 0),(.string ByteArray.empty)]:=Zc.mk' (z:= .agg #[(.int .u64 0),(.int .i64 0),(.int .i64 0),(.int .i64 0),(.slice none 0 0),(.slice none 0 0),(.string ByteArray.empty)]) (by kernel_rfl) rfl
instance:StT Tryz.prog 41 [(0,1),(1,1),(2,1),(3,1),(4,1),(5,1),(6,1)] [(.int .u64 0),(.int .i64 0),(.int .i64 0),(.int .i64 0),(.slice none 0 0),(.slice none 0 0),(.string ByteArray.empty)]:=StT.mk' (z:= .agg #[(.int .u64 0),(.int .i64 0),(.int .i64 0),(.int .i64 0),(.slice none 0 0),(.slice none 0 0),(.string ByteArray.empty)]) Tryz.underlying41 (by kernel_rfl) rfl (by kernel_rfl)
instance:Sz Tryz.prog 49 2:=Sz.mk' (by kernel_rfl)
instance:Ag Tryz.prog 49:=Ag.mk' Tryz.underlying49 rfl
instance:EqS Tryz.prog 49 [.i64,.i64]:=EqS.mk' Tryz.underlying49 (by kernel_rfl) (by kernel_rfl) (by kernel_rfl)
instance:Fld Tryz.prog 49 0 0 3:=Fld.mk' Tryz.underlying49 rfl
instance:Fld Tryz.prog 49 1 1 3:=Fld.mk' Tryz.underlying49 rfl
instance:StT Tryz.prog 49 [(0,1),(1,1)] [(.int .i64 0),(.int .i64 0)]:=StT.mk' (z:= .agg #[(.int .i64 0),(.int .i64 0)]) Tryz.underlying49 (by kernel_rfl) rfl (by kernel_rfl)
instance:SlT Tryz.prog 76 9:=⟨Tryz.underlying76⟩
instance:Sz Tryz.prog 81 1:=Sz.mk' (by kernel_rfl)
instance:SlT Tryz.prog 81 152:=⟨Tryz.underlying81⟩
instance:One Tryz.prog 81:=One.mk' Tryz.underlying81 rfl
instance:Sz Tryz.prog 83 7:=Sz.mk' (by kernel_rfl)
instance:Ag Tryz.prog 83:=Ag.mk' Tryz.underlying83 rfl
instance:Fld Tryz.prog 83 0 0 27:=Fld.mk' Tryz.underlying83 rfl
instance:Fld Tryz.prog 83 1 1 3:=Fld.mk' Tryz.underlying83 rfl
instance:Fld Tryz.prog 83 2 2 3:=Fld.mk' Tryz.underlying83 rfl
instance:Fld Tryz.prog 83 3 3 3:=Fld.mk' Tryz.underlying83 rfl
instance:Fld Tryz.prog 83 4 4 81:=Fld.mk' Tryz.underlying83 rfl
instance:Fld Tryz.prog 83 5 5 39:=Fld.mk' Tryz.underlying83 rfl
instance:Fld Tryz.prog 83 6 6 9:=Fld.mk' Tryz.underlying83 rfl
instance:Zc Tryz.prog 83 [(.int .u64 0),(.int .i64 0),(.int .i64 0),(.int .i64 0),(.slice none 0 0),(.slice none 0 0),(.string ByteArray.empty)]:=Zc.mk' (z:= .agg #[(.int .u64 0),(.int .i64 0),(.int .i64 0),(.int .i64 0),(.slice none 0 0),(.slice none 0 0),(.string ByteArray.empty)]) (by kernel_rfl) rfl
instance:StT Tryz.prog 83 [(0,1),(1,1),(2,1),(3,1),(4,1),(5,1),(6,1)] [(.int .u64 0),(.int .i64 0),(.int .i64 0),(.int .i64 0),(.slice none 0 0),(.slice none 0 0),(.string ByteArray.empty)]:=StT.mk' (z:= .agg #[(.int .u64 0),(.int .i64 0),(.int .i64 0),(.int .i64 0),(.slice none 0 0),(.slice none 0 0),(.string ByteArray.empty)]) Tryz.underlying83 (by kernel_rfl) rfl (by kernel_rfl)
instance:SlT Tryz.prog 92 41:=⟨Tryz.underlying92⟩
instance:SlT Tryz.prog 93 4:=⟨Tryz.underlying93⟩
instance:ArrT Tryz.prog 94 2 3:=⟨Tryz.underlying94⟩
instance:Sz Tryz.prog 103 2:=Sz.mk' (by kernel_rfl)
instance:Ag Tryz.prog 103:=Ag.mk' Tryz.underlying103 rfl
instance:EqS Tryz.prog 103 [.i64,.i64]:=EqS.mk' Tryz.underlying103 (by kernel_rfl) (by kernel_rfl) (by kernel_rfl)
instance:Fld Tryz.prog 103 0 0 3:=Fld.mk' Tryz.underlying103 rfl
instance:Fld Tryz.prog 103 1 1 3:=Fld.mk' Tryz.underlying103 rfl
instance:Zc Tryz.prog 103 [(.int .i64 0),(.int .i64 0)]:=Zc.mk' (z:= .agg #[(.int .i64 0),(.int .i64 0)]) (by kernel_rfl) rfl
instance:StT Tryz.prog 103 [(0,1),(1,1)] [(.int .i64 0),(.int .i64 0)]:=StT.mk' (z:= .agg #[(.int .i64 0),(.int .i64 0)]) Tryz.underlying103 (by kernel_rfl) rfl (by kernel_rfl)
instance:ElT Tryz.prog 103 2 16:=ElT.mk' (z:= .agg #[(.int .i64 0),(.int .i64 0)]) (by kernel_rfl) rfl (by decide)
instance:Sz Tryz.prog 105 4:=Sz.mk' (by kernel_rfl)
instance:Ag Tryz.prog 105:=Ag.mk' Tryz.underlying105 rfl
instance:Fld Tryz.prog 105 0 0 103:=Fld.mk' Tryz.underlying105 rfl
instance:Fld Tryz.prog 105 1 2 49:=Fld.mk' Tryz.underlying105 rfl
instance:Zc Tryz.prog 105 [(.int .i64 0),(.int .i64 0),(.int .i64 0),(.int .i64 0)]:=Zc.mk' (z:= .agg #[(.int .i64 0),(.int .i64 0),(.int .i64 0),(.int .i64 0)]) (by kernel_rfl) rfl
instance:StT Tryz.prog 105 [(0,2),(2,2)] [(.int .i64 0),(.int .i64 0),(.int .i64 0),(.int .i64 0)]:=StT.mk' (z:= .agg #[(.int .i64 0),(.int .i64 0),(.int .i64 0),(.int .i64 0)]) Tryz.underlying105 (by kernel_rfl) rfl (by kernel_rfl)
instance:ElT Tryz.prog 105 4 32:=ElT.mk' (z:= .agg #[(.int .i64 0),(.int .i64 0),(.int .i64 0),(.int .i64 0)]) (by kernel_rfl) rfl (by decide)
instance:Sz Tryz.prog 107 1:=Sz.mk' (by kernel_rfl)
instance:One Tryz.prog 107:=One.mk' Tryz.underlying107 rfl
instance:Fld Tryz.prog 110 0 0 107:=Fld.mk' Tryz.underlying110 rfl
instance:Fld Tryz.prog 110 1 1 3:=Fld.mk' Tryz.underlying110 rfl
instance:Fld Tryz.prog 110 2 2 3:=Fld.mk' Tryz.underlying110 rfl
instance:Fld Tryz.prog 110 3 3 32:=Fld.mk' Tryz.underlying110 rfl
instance:StT Tryz.prog 110 [(0,1),(1,1),(2,1),(3,1),(4,1)] [(.map none),(.int .i64 0),(.int .i64 0),(.slice none 0 0),(.slice none 0 0)]:=StT.mk' (z:= .agg #[(.map none),(.int .i64 0),(.int .i64 0),(.slice none 0 0),(.slice none 0 0)]) Tryz.underlying110 (by kernel_rfl) rfl (by kernel_rfl)
instance:Sz Tryz.prog 120 3:=Sz.mk' (by kernel_rfl)
instance:Ag Tryz.prog 120:=Ag.mk' Tryz.underlying120 rfl
instance:Fld Tryz.prog 120 0 0 9:=Fld.mk' Tryz.underlying120 rfl
instance:Fld Tryz.prog 120 1 1 3:=Fld.mk' Tryz.underlying120 rfl
instance:Fld Tryz.prog 120 2 2 3:=Fld.mk' Tryz.underlying120 rfl
instance:Zc Tryz.prog 120 [(.string ByteArray.empty),(.int .i64 0),(.int .i64 0)]:=Zc.mk' (z:= .agg #[(.string ByteArray.empty),(.int .i64 0),(.int .i64 0)]) (by kernel_rfl) rfl
instance:StT Tryz.prog 120 [(0,1),(1,1),(2,1)] [(.string ByteArray.empty),(.int .i64 0),(.int .i64 0)]:=StT.mk' (z:= .agg #[(.string ByteArray.empty),(.int .i64 0),(.int .i64 0)]) Tryz.underlying120 (by kernel_rfl) rfl (by kernel_rfl)
instance:Sz Tryz.prog 138 3:=Sz.mk' (by kernel_rfl)
instance:Ag Tryz.prog 138:=Ag.mk' Tryz.underlying138 rfl
instance:EqS Tryz.prog 138 [.i64,.i64,.i64]:=EqS.mk' Tryz.underlying138 (by kernel_rfl) (by kernel_rfl) (by kernel_rfl)
instance:Fld Tryz.prog 138 0 0 3:=Fld.mk' Tryz.underlying138 rfl
instance:Fld Tryz.prog 138 1 1 3:=Fld.mk' Tryz.underlying138 rfl
instance:Fld Tryz.prog 138 2 2 3:=Fld.mk' Tryz.underlying138 rfl
instance:Zc Tryz.prog 138 [(.int .i64 0),(.int .i64 0),(.int .i64 0)]:=Zc.mk' (z:= .agg #[(.int .i64 0),(.int .i64 0),(.int .i64 0)]) (by kernel_rfl) rfl
instance:StT Tryz.prog 138 [(0,1),(1,1),(2,1)] [(.int .i64 0),(.int .i64 0),(.int .i64 0)]:=StT.mk' (z:= .agg #[(.int .i64 0),(.int .i64 0),(.int .i64 0)]) Tryz.underlying138 (by kernel_rfl) rfl (by kernel_rfl)
instance:ElT Tryz.prog 138 3 24:=ElT.mk' (z:= .agg #[(.int .i64 0),(.int .i64 0),(.int .i64 0)]) (by kernel_rfl) rfl (by decide)
instance:Sz Tryz.prog 152 4:=Sz.mk' (by kernel_rfl)
instance:Ag Tryz.prog 152:=Ag.mk' Tryz.underlying152 rfl
instance:Zc Tryz.prog 152 [(.int .i64 0),(.int .i64 0),(.int .i64 0),(.int .i64 0)]:=Zc.mk' (z:= .agg #[(.int .i64 0),(.int .i64 0),(.int .i64 0),(.int .i64 0)]) (by kernel_rfl) rfl
instance:StT Tryz.prog 152 [(0,1),(1,1),(2,2)] [(.int .i64 0),(.int .i64 0),(.int .i64 0),(.int .i64 0)]:=StT.mk' (z:= .agg #[(.int .i64 0),(.int .i64 0),(.int .i64 0),(.int .i64 0)]) Tryz.underlying152 (by kernel_rfl) rfl (by kernel_rfl)
instance:ElT Tryz.prog 152 4 32:=ElT.mk' (z:= .agg #[(.int .i64 0),(.int .i64 0),(.int .i64 0),(.int .i64 0)]) (by kernel_rfl) rfl (by decide)
instance:Sz Tryz.prog 154 4:=Sz.mk' (by kernel_rfl)
instance:Ag Tryz.prog 154:=Ag.mk' Tryz.underlying154 rfl
instance:Fld Tryz.prog 154 0 0 103:=Fld.mk' Tryz.underlying154 rfl
instance:Fld Tryz.prog 154 1 2 49:=Fld.mk' Tryz.underlying154 rfl
instance:Zc Tryz.prog 154 [(.int .i64 0),(.int .i64 0),(.int .i64 0),(.int .i64 0)]:=Zc.mk' (z:= .agg #[(.int .i64 0),(.int .i64 0),(.int .i64 0),(.int .i64 0)]) (by kernel_rfl) rfl
instance:ElT Tryz.prog 154 4 32:=ElT.mk' (z:= .agg #[(.int .i64 0),(.int .i64 0),(.int .i64 0),(.int .i64 0)]) (by kernel_rfl) rfl (by decide)
instance:PtrT Tryz.prog 155 226:=⟨Tryz.underlying155⟩
instance:PtrT Tryz.prog 182 257:=⟨Tryz.underlying182⟩
instance:IntT Tryz.prog 186 .u32:=⟨Tryz.underlying186⟩
instance:Sz Tryz.prog 196 1:=Sz.mk' (by kernel_rfl)
instance:One Tryz.prog 196:=One.mk' Tryz.underlying196 rfl
instance:Fld Tryz.prog 198 0 0 196:=Fld.mk' Tryz.underlying198 rfl
instance:Fld Tryz.prog 198 1 1 9:=Fld.mk' Tryz.underlying198 rfl
instance:Fld Tryz.prog 198 2 2 9:=Fld.mk' Tryz.underlying198 rfl
instance:StT Tryz.prog 198 [(0,1),(1,1),(2,1)] [(.nilFunc),(.string ByteArray.empty),(.string ByteArray.empty)]:=StT.mk' (z:= .agg #[(.nilFunc),(.string ByteArray.empty),(.string ByteArray.empty)]) Tryz.underlying198 (by kernel_rfl) rfl (by kernel_rfl)
instance:Fld Tryz.prog 226 0 0 28:=Fld.mk' Tryz.underlying226 rfl
instance:StT Tryz.prog 226 [(0,1)] [(.slice none 0 0)]:=StT.mk' (z:= .agg #[(.slice none 0 0)]) Tryz.underlying226 (by kernel_rfl) rfl (by kernel_rfl)
instance:Sz Tryz.prog 230 1:=Sz.mk' (by kernel_rfl)
instance:One Tryz.prog 230:=One.mk' Tryz.underlying230 rfl
instance:Zc Tryz.prog 230 [(.nilFunc)]:=Zc.mk' (z:= .nilFunc) (by kernel_rfl) rfl
instance:Sz Tryz.prog 242 1:=Sz.mk' (by kernel_rfl)
instance:SlT Tryz.prog 242 5:=⟨Tryz.underlying242⟩
instance:One Tryz.prog 242:=One.mk' Tryz.underlying242 rfl
instance:Fld Tryz.prog 244 0 0 242:=Fld.mk' Tryz.underlying244 rfl
instance:Zc Tryz.prog 244 [(.slice none 0 0)]:=Zc.mk' (z:= .agg #[(.slice none 0 0)]) (by kernel_rfl) rfl
instance:PtrT Tryz.prog 248 244:=⟨Tryz.underlying248⟩
instance:Sz Tryz.prog 255 2:=Sz.mk' (by kernel_rfl)
instance:Fld Tryz.prog 255 0 0 3:=Fld.mk' Tryz.underlying255 rfl
instance:Fld Tryz.prog 255 1 1 24:=Fld.mk' Tryz.underlying255 rfl
instance:Fld Tryz.prog 257 0 0 255:=Fld.mk' Tryz.underlying257 rfl
instance:Fld Tryz.prog 257 1 2 9:=Fld.mk' Tryz.underlying257 rfl
instance:StT Tryz.prog 257 [(0,2),(2,1)] [(.int .i64 0),(.int .i64 0),(.string ByteArray.empty)]:=StT.mk' (z:= .agg #[(.int .i64 0),(.int .i64 0),(.string ByteArray.empty)]) Tryz.underlying257 (by kernel_rfl) rfl (by kernel_rfl)
instance:Sz Tryz.prog 263 4:=Sz.mk' (by kernel_rfl)
instance:ArrT Tryz.prog 263 4 3:=⟨Tryz.underlying263⟩
instance:Ag Tryz.prog 263:=Ag.mk' Tryz.underlying263 rfl
instance:Zc Tryz.prog 263 [(.int .i64 0),(.int .i64 0),(.int .i64 0),(.int .i64 0)]:=Zc.mk' (z:= .agg #[(.int .i64 0),(.int .i64 0),(.int .i64 0),(.int .i64 0)]) (by kernel_rfl) rfl
instance:IntT Tryz.prog 284 .u64:=⟨Tryz.underlying284⟩
instance:SlT Tryz.prog 336 28:=⟨Tryz.underlying336⟩
instance:SlT Tryz.prog 338 27:=⟨Tryz.underlying338⟩
instance:ArrT Tryz.prog 380 65 5:=⟨Tryz.underlying380⟩
instance:ArrT Tryz.prog 399 64 5:=⟨Tryz.underlying399⟩
theorem Ze{P:Program}{f:FuncId}{fn:Func}(hf:P.funcs[f]?=some fn)(hn:(fn.name== "runtime.NumGoroutine")=false:=by kernel_rfl)(hb:fn.body.isSome=true:=by kernel_rfl):Enters P f:=Enters.mk' hf hn hb
instance:Enters Tryz.prog 7:=Ze Tryz.func7
instance:Enters Tryz.prog 8:=Ze Tryz.func8
instance:Enters Tryz.prog 9:=Ze Tryz.func9
instance:Enters Tryz.prog 10:=Ze Tryz.func10
instance:Enters Tryz.prog 11:=Ze Tryz.func11
instance:Enters Tryz.prog 12:=Ze Tryz.func12
instance:Enters Tryz.prog 13:=Ze Tryz.func13
instance:Enters Tryz.prog 19:=Ze Tryz.func19
instance:Enters Tryz.prog 25:=Ze Tryz.func25
instance:Enters Tryz.prog 29:=Ze Tryz.func29
instance:Enters Tryz.prog 30:=Ze Tryz.func30
instance:Enters Tryz.prog 31:=Ze Tryz.func31
instance:Enters Tryz.prog 32:=Ze Tryz.func32
instance:Enters Tryz.prog 33:=Ze Tryz.func33
instance:Enters Tryz.prog 34:=Ze Tryz.func34
instance:Enters Tryz.prog 35:=Ze Tryz.func35
instance:Enters Tryz.prog 36:=Ze Tryz.func36
instance:Enters Tryz.prog 37:=Ze Tryz.func37
instance:Enters Tryz.prog 38:=Ze Tryz.func38
instance:Enters Tryz.prog 39:=Ze Tryz.func39
instance:Enters Tryz.prog 40:=Ze Tryz.func40
instance:Enters Tryz.prog 41:=Ze Tryz.func41
instance:Enters Tryz.prog 42:=Ze Tryz.func42
instance:Enters Tryz.prog 43:=Ze Tryz.func43
instance:Enters Tryz.prog 44:=Ze Tryz.func44
instance:Enters Tryz.prog 45:=Ze Tryz.func45
instance:Enters Tryz.prog 46:=Ze Tryz.func46
instance:Enters Tryz.prog 47:=Ze Tryz.func47
instance:Enters Tryz.prog 48:=Ze Tryz.func48
instance:Enters Tryz.prog 49:=Ze Tryz.func49
instance:Enters Tryz.prog 50:=Ze Tryz.func50
instance:Enters Tryz.prog 51:=Ze Tryz.func51
instance:Enters Tryz.prog 62:=Ze Tryz.func62
instance:Enters Tryz.prog 63:=Ze Tryz.func63
instance:Enters Tryz.prog 67:=Ze Tryz.func67
instance:Enters Tryz.prog 68:=Ze Tryz.func68
instance:Enters Tryz.prog 69:=Ze Tryz.func69
instance:Enters Tryz.prog 70:=Ze Tryz.func70
instance:Enters Tryz.prog 71:=Ze Tryz.func71
instance:Enters Tryz.prog 72:=Ze Tryz.func72
instance:Enters Tryz.prog 73:=Ze Tryz.func73
instance:Enters Tryz.prog 74:=Ze Tryz.func74
instance:Enters Tryz.prog 75:=Ze Tryz.func75
instance:Enters Tryz.prog 76:=Ze Tryz.func76
instance:Enters Tryz.prog 77:=Ze Tryz.func77
instance:Enters Tryz.prog 78:=Ze Tryz.func78
instance:Enters Tryz.prog 79:=Ze Tryz.func79
instance:Enters Tryz.prog 80:=Ze Tryz.func80
instance:Enters Tryz.prog 81:=Ze Tryz.func81
instance:Enters Tryz.prog 82:=Ze Tryz.func82
instance:Enters Tryz.prog 83:=Ze Tryz.func83
instance:Enters Tryz.prog 84:=Ze Tryz.func84
instance:Enters Tryz.prog 85:=Ze Tryz.func85
instance:Enters Tryz.prog 86:=Ze Tryz.func86
instance:Enters Tryz.prog 87:=Ze Tryz.func87
instance:Enters Tryz.prog 88:=Ze Tryz.func88
instance:Enters Tryz.prog 89:=Ze Tryz.func89
instance:Enters Tryz.prog 90:=Ze Tryz.func90
instance:Enters Tryz.prog 91:=Ze Tryz.func91
instance:Enters Tryz.prog 92:=Ze Tryz.func92
instance:Enters Tryz.prog 93:=Ze Tryz.func93
instance:Enters Tryz.prog 94:=Ze Tryz.func94
instance:Enters Tryz.prog 95:=Ze Tryz.func95
instance:Enters Tryz.prog 96:=Ze Tryz.func96
instance:Enters Tryz.prog 97:=Ze Tryz.func97
instance:Enters Tryz.prog 98:=Ze Tryz.func98
instance:Enters Tryz.prog 99:=Ze Tryz.func99
instance:Enters Tryz.prog 100:=Ze Tryz.func100
instance:Enters Tryz.prog 101:=Ze Tryz.func101
instance:Enters Tryz.prog 102:=Ze Tryz.func102
instance:Enters Tryz.prog 103:=Ze Tryz.func103
instance:Enters Tryz.prog 104:=Ze Tryz.func104
instance:Enters Tryz.prog 105:=Ze Tryz.func105
instance:Enters Tryz.prog 106:=Ze Tryz.func106
instance:Enters Tryz.prog 107:=Ze Tryz.func107
instance:Enters Tryz.prog 108:=Ze Tryz.func108
instance:Enters Tryz.prog 125:=Ze Tryz.func125
instance:Enters Tryz.prog 133:=Ze Tryz.func133
instance:Enters Tryz.prog 134:=Ze Tryz.func134
instance:Enters Tryz.prog 135:=Ze Tryz.func135
instance:Enters Tryz.prog 136:=Ze Tryz.func136
instance:Enters Tryz.prog 137:=Ze Tryz.func137
instance:Enters Tryz.prog 138:=Ze Tryz.func138
instance:Enters Tryz.prog 139:=Ze Tryz.func139
instance:Enters Tryz.prog 140:=Ze Tryz.func140
instance:Enters Tryz.prog 141:=Ze Tryz.func141
instance:Enters Tryz.prog 142:=Ze Tryz.func142
instance:Enters Tryz.prog 143:=Ze Tryz.func143
instance:Enters Tryz.prog 144:=Ze Tryz.func144
instance:Enters Tryz.prog 145:=Ze Tryz.func145
instance:Enters Tryz.prog 146:=Ze Tryz.func146
instance:Enters Tryz.prog 147:=Ze Tryz.func147
instance:Enters Tryz.prog 148:=Ze Tryz.func148
instance:Enters Tryz.prog 149:=Ze Tryz.func149
instance:Enters Tryz.prog 150:=Ze Tryz.func150
instance:Enters Tryz.prog 151:=Ze Tryz.func151
instance:Enters Tryz.prog 152:=Ze Tryz.func152
instance:Enters Tryz.prog 153:=Ze Tryz.func153
instance:Enters Tryz.prog 154:=Ze Tryz.func154
instance:Enters Tryz.prog 155:=Ze Tryz.func155
instance:Enters Tryz.prog 156:=Ze Tryz.func156
instance:Enters Tryz.prog 157:=Ze Tryz.func157
instance:Enters Tryz.prog 158:=Ze Tryz.func158
instance:Enters Tryz.prog 159:=Ze Tryz.func159
instance:Enters Tryz.prog 160:=Ze Tryz.func160
instance:Enters Tryz.prog 161:=Ze Tryz.func161
instance:Enters Tryz.prog 162:=Ze Tryz.func162
instance:Enters Tryz.prog 163:=Ze Tryz.func163
instance:Enters Tryz.prog 164:=Ze Tryz.func164
instance:Enters Tryz.prog 165:=Ze Tryz.func165
instance:Enters Tryz.prog 166:=Ze Tryz.func166
instance:Enters Tryz.prog 167:=Ze Tryz.func167
instance:Enters Tryz.prog 168:=Ze Tryz.func168
instance:Enters Tryz.prog 169:=Ze Tryz.func169
instance:Enters Tryz.prog 170:=Ze Tryz.func170
instance:Enters Tryz.prog 171:=Ze Tryz.func171
instance:Enters Tryz.prog 172:=Ze Tryz.func172
instance:Enters Tryz.prog 173:=Ze Tryz.func173
instance:Enters Tryz.prog 174:=Ze Tryz.func174
instance:Enters Tryz.prog 175:=Ze Tryz.func175
instance:Enters Tryz.prog 176:=Ze Tryz.func176
instance:Enters Tryz.prog 177:=Ze Tryz.func177
instance:Enters Tryz.prog 178:=Ze Tryz.func178
instance:Enters Tryz.prog 179:=Ze Tryz.func179
instance:Enters Tryz.prog 180:=Ze Tryz.func180
instance:Enters Tryz.prog 181:=Ze Tryz.func181
instance:Enters Tryz.prog 182:=Ze Tryz.func182
instance:Enters Tryz.prog 183:=Ze Tryz.func183
instance:Enters Tryz.prog 184:=Ze Tryz.func184
instance:Enters Tryz.prog 185:=Ze Tryz.func185
instance:Enters Tryz.prog 186:=Ze Tryz.func186
instance:Enters Tryz.prog 200:=Ze Tryz.func200
instance:Enters Tryz.prog 205:=Ze Tryz.func205
instance:Enters Tryz.prog 206:=Ze Tryz.func206
instance:Enters Tryz.prog 207:=Ze Tryz.func207
instance:Enters Tryz.prog 208:=Ze Tryz.func208
instance:Enters Tryz.prog 209:=Ze Tryz.func209
instance:Enters Tryz.prog 210:=Ze Tryz.func210
instance:Enters Tryz.prog 211:=Ze Tryz.func211
instance:Enters Tryz.prog 212:=Ze Tryz.func212
instance:Enters Tryz.prog 213:=Ze Tryz.func213
instance:Enters Tryz.prog 214:=Ze Tryz.func214
instance:Enters Tryz.prog 215:=Ze Tryz.func215
instance:Enters Tryz.prog 216:=Ze Tryz.func216
instance:Enters Tryz.prog 217:=Ze Tryz.func217
instance:Enters Tryz.prog 218:=Ze Tryz.func218
instance:Enters Tryz.prog 219:=Ze Tryz.func219
instance:Enters Tryz.prog 220:=Ze Tryz.func220
instance:Enters Tryz.prog 221:=Ze Tryz.func221
instance:Enters Tryz.prog 222:=Ze Tryz.func222
instance:Enters Tryz.prog 223:=Ze Tryz.func223
instance:Enters Tryz.prog 224:=Ze Tryz.func224
instance:Enters Tryz.prog 225:=Ze Tryz.func225
instance:Enters Tryz.prog 226:=Ze Tryz.func226
instance:Enters Tryz.prog 228:=Ze Tryz.func228
instance:Enters Tryz.prog 229:=Ze Tryz.func229
instance:Enters Tryz.prog 230:=Ze Tryz.func230
instance:Enters Tryz.prog 231:=Ze Tryz.func231
instance:Enters Tryz.prog 232:=Ze Tryz.func232
instance:Enters Tryz.prog 238:=Ze Tryz.func238
instance:Enters Tryz.prog 252:=Ze Tryz.func252
instance:Enters Tryz.prog 256:=Ze Tryz.func256
instance:Enters Tryz.prog 257:=Ze Tryz.func257
instance:Enters Tryz.prog 258:=Ze Tryz.func258
instance:Enters Tryz.prog 259:=Ze Tryz.func259
instance:Enters Tryz.prog 260:=Ze Tryz.func260
instance:Enters Tryz.prog 261:=Ze Tryz.func261
instance:Enters Tryz.prog 262:=Ze Tryz.func262
instance:Enters Tryz.prog 263:=Ze Tryz.func263
instance:Enters Tryz.prog 264:=Ze Tryz.func264
instance:Enters Tryz.prog 265:=Ze Tryz.func265
instance:Enters Tryz.prog 267:=Ze Tryz.func267
instance:Enters Tryz.prog 277:=Ze Tryz.func277
instance:Enters Tryz.prog 278:=Ze Tryz.func278
instance:Enters Tryz.prog 282:=Ze Tryz.func282
instance:Enters Tryz.prog 299:=Ze Tryz.func299
instance:Enters Tryz.prog 300:=Ze Tryz.func300
instance:Enters Tryz.prog 301:=Ze Tryz.func301
instance:Enters Tryz.prog 302:=Ze Tryz.func302
instance:Enters Tryz.prog 303:=Ze Tryz.func303
instance:Enters Tryz.prog 305:=Ze Tryz.func305
instance:Enters Tryz.prog 314:=Ze Tryz.func314
instance:Enters Tryz.prog 317:=Ze Tryz.func317
instance:Enters Tryz.prog 318:=Ze Tryz.func318
instance:Enters Tryz.prog 326:=Ze Tryz.func326
instance:Enters Tryz.prog 329:=Ze Tryz.func329
instance:Enters Tryz.prog 332:=Ze Tryz.func332
theorem mixed:Tryz.prog.follows .mixedOrders=true:=by kernel_rfl
end Go.Lx
namespace Go.Lx
structure Zv (Q:Prop):Prop where
  d:Q
theorem Zo{P Q:Prop}(k:Q)(h:Zv Q→P:=by exact fun q=>(by first|exact Go.Lx.Z.p rfl q.d|exact Go.Lx.XL.skipC rfl rfl rfl rfl q.d|exact Go.Lx.Z.l1 rfl rfl rfl q.d|exact Go.Lx.Z.lN rfl rfl rfl q.d|exact Go.Lx.Z.lP rfl rfl rfl q.d|exact Go.Lx.Z.g rfl (by omega) q.d|exact Go.Lx.Z.w rfl q.d|exact Go.Lx.Z.fa rfl rfl rfl q.d|exact Go.Lx.Qj rfl rfl rfl rfl rfl q.d|exact Go.Lx.Qk rfl rfl rfl rfl rfl rfl q.d|exact Go.Lx.Z.ln rfl rfl q.d|exact Go.Lx.Z.lnL rfl rfl q.d|exact Go.Lx.Z.bd rfl rfl q.d|exact Go.Lx.Z.eqP rfl rfl rfl q.d|exact Go.Lx.Z.cv rfl rfl q.d|exact Go.Lx.Z.mf rfl rfl rfl q.d|exact Go.Lx.Z.mx rfl rfl rfl q.d|exact Go.Lx.Z.eqN rfl rfl rfl q.d|exact Go.Lx.Z.quo rfl rfl rfl (by omega) q.d|exact Go.Lx.Z.mn rfl rfl rfl q.d|exact Go.Lx.Z.neP rfl rfl rfl q.d|exact Go.Lx.Z.cap rfl rfl q.d|exact Go.Lx.Z.rem rfl rfl rfl (by omega) q.d|exact Go.Lx.Z.fN rfl rfl q.d|exact Go.Lx.Qf q.d)):P:=h ⟨k⟩
theorem Zg{P Q:Prop}(k:Q)(h:Zv Q→P:=by exact fun q=>(by first|exact Go.Lx.Z.p rfl q.d|exact Go.Lx.XL.skipC rfl rfl rfl rfl q.d|exact Go.Lx.Z.l1 rfl rfl rfl q.d|exact Go.Lx.Z.lN rfl rfl rfl q.d|exact Go.Lx.Z.lP rfl rfl rfl q.d|exact Go.Lx.Z.g rfl (by omega) q.d|exact Go.Lx.Z.w rfl q.d|exact Go.Lx.Z.fa rfl rfl rfl q.d|exact Go.Lx.Qj rfl rfl rfl rfl rfl q.d|exact Go.Lx.Qk rfl rfl rfl rfl rfl rfl q.d|exact Go.Lx.Z.ln rfl rfl q.d|exact Go.Lx.Z.lnL rfl rfl q.d|exact Go.Lx.Z.bd rfl rfl q.d|exact Go.Lx.Z.eqP rfl rfl rfl q.d|exact Go.Lx.Z.cv rfl rfl q.d|exact Go.Lx.Z.mf rfl rfl rfl q.d|exact Go.Lx.Z.mx rfl rfl rfl q.d|exact Go.Lx.Z.eqN rfl rfl rfl q.d|exact Go.Lx.Z.quo rfl rfl rfl (by omega) q.d|exact Go.Lx.Z.mn rfl rfl rfl q.d|exact Go.Lx.Z.neP rfl rfl rfl q.d|exact Go.Lx.Z.cap rfl rfl q.d|exact Go.Lx.Z.rem rfl rfl rfl (by omega) q.d|exact Go.Lx.Z.fN rfl rfl q.d|exact Go.Lx.XL.nil q.d)):P:=h ⟨k⟩
theorem Zt{P Q:Prop}(k:Q)(h:Q→P:=by exact fun q=>Go.Lx.X.st (by kernel_rfl) q):P:=h k
theorem Zx{P Q:Prop}(k:Q)(h:Q→P:=by exact fun q=>Go.Lx.X.tx (by kernel_rfl) q):P:=h k
theorem Zu{P Q:Prop}(k:Q)(h:Q→P:=by exact fun q=>Go.Lx.Qi rfl (fun _=>q) (fun hc=>Go.Lx.no_ hc rfl)):P:=h k
theorem Zf{P Q:Prop}(k:Q)(h:Q→P:=by exact fun q=>Go.Lx.Qi rfl (fun hc=>Go.Lx.no_ hc rfl) (fun _=>q)):P:=h k
theorem Zw{P Q:Prop}(k:Q)(h:Zv Q→P:=by exact fun q=>(by refine Go.Lx.Zt ?_;(repeat(refine Go.Lx.Zo ?_));exact q.d)):P:=h ⟨k⟩
theorem Zy{P Q:Prop}(k:Q)(h:Zv Q→P:=by exact fun q=>(by refine Go.Lx.Zx ?_;(repeat(refine Go.Lx.Zg ?_));exact q.d)):P:=h ⟨k⟩
theorem Zb{P:Prop}(h:P:=by(repeat(first|exact Go.Lx.Sub.nil|refine Go.Lx.Sub.cons rfl ?_))):P:=h
theorem Zd{P:Prop}(h:P:=by first|exact fun _=>Go.Lx.Conf.takes|exact fun _ h=>h.takes):P:=h
theorem Zp{P Q:Prop}(k:Q)(h:Q→P:=by exact fun q=>Go.Lx.Zu (Go.Lx.X.skip q)):P:=h k
theorem Zm{P Q:Prop}(k:Q)(h:Q→P:=by exact fun q=>Go.Lx.Zf (Go.Lx.X.skip q)):P:=h k
theorem Zq{P Q:Prop}(k:Q)(h:Q→P:=by exact fun q=>Go.Lx.Zf (Go.Lx.Qq q)):P:=h k
theorem Zs{P Q:Prop}(k:Q)(h:Q→P:=by exact fun q=>(by rintro v B' ⟨rfl,rfl⟩;exact Go.Lx.Qg q)):P:=h k
end Go.Lx
namespace Go.Lx
abbrev Zj (n:Int):Value:= .int .i64 n
abbrev Zl:Value:= .slice none 0 0
abbrev Zi (s:Bs):Value:= .string ⟨List.toArray s⟩
theorem Zn{P:Program}{f:FuncId}{fn:Func}{n:Nat}{args:List Value}{w:World}{R:Value→List Assn→Prop}{c:Code}(hf:P.funcs[f]?=some fn)(hn:fn.ntmps=n)(h:X ⟨P,n,w,fun _=>False⟩ c (Post P fn w (fun _=>False) R) (argEnv 0 args) [])(hb:fn.body=some c:=by exact rfl)(hle:(decide (args.length≤n))=true:=by exact rfl):Spec P f args.toArray w (fun _=>False) R:=Spec.enter (A:=[]) hf hb hn hle (fun _ h=>h) h
end Go.Lx
