import Derived.Test.YtakoppmiegjjlaaGreatDoorF1
set_option linter.unusedVariables false
set_option linter.unusedSimpArgs false
namespace Go.Lx
def subA (a:Option Addr) (sz l m:Nat):Option Addr:=if m=l then a else a.map (·.add (l*sz))
theorem Rd.sub{w:World}{sz n c l h m:Nat}{a:Option Addr}{xs:List Value}(hr:Rd w sz a n c xs)(h1:l≤h)(h2:h≤m)(h3:m≤c)(h4:h≤n):Rd w sz (subA a sz l m) (h-l) (m-l) ((xs.drop (l*sz)).take ((h-l)*sz)):=by
  have hlen:(h-l)*sz+l*sz≤n*sz:=by rw [←Nat.add_mul];exact Nat.mul_le_mul_right _ (by omega)
  refine⟨?_,by omega,by have:=hr.mx;omega,fun h0=>?_,fun j v hj=>?_⟩
  · rw [List.length_take,List.length_drop,hr.len]
    omega
  · have:=hr.sm (by omega)
    unfold subA
    split
    · exact this
    · cases a<;>simp at this ⊢
  · rw [List.getElem?_take] at hj
    split at hj
    · rename_i hjl
      rw [List.getElem?_drop] at hj
      have hc:=hr.cell _ v hj
      have hlt:l<h:=by
        rcases Nat.lt_or_ge l h with q|q
        · exact q
        · have:h-l=0:=by omega
          rw [this,Nat.zero_mul] at hjl
          omega
      have hs:=hr.sm (by omega)
      obtain⟨p,rfl⟩:=Option.isSome_iff_exists.1 hs
      have e:el (subA (some p) sz l m) j=el (some p) (l*sz+j):=by
        unfold subA
        rw [if_neg (by omega),←el_add]
        rfl
      rw [e]
      exact hc
    · cases hj
theorem flat_drop{α:Type}(f:α→List Value)(sz:Nat)(hf:∀ x,(f x).length=sz):∀ (xs:List α) (k:Nat),(xs.flatMap f).drop (k*sz)=(xs.drop k).flatMap f
  |xs,0=>by simp
  |[],k+1=>by simp
  |x::xs,k+1=>by
    rw [List.flatMap_cons,List.drop_succ_cons,←flat_drop f sz hf xs k]
    have:(k+1)*sz=(f x).length+k*sz:=by rw [hf,Nat.add_mul];omega
    rw [this,List.drop_append]
    rw [List.drop_of_length_le (by omega)]
    simp
theorem flat_take{α:Type}(f:α→List Value)(sz:Nat)(hf:∀ x,(f x).length=sz):∀ (xs:List α) (k:Nat),(xs.flatMap f).take (k*sz)=(xs.take k).flatMap f
  |xs,0=>by simp
  |[],k+1=>by simp
  |x::xs,k+1=>by
    rw [List.flatMap_cons,List.take_succ_cons,List.flatMap_cons,←flat_take f sz hf xs k]
    have:(k+1)*sz=(f x).length+k*sz:=by rw [hf,Nat.add_mul];omega
    rw [this,List.take_append,List.take_of_length_le (by omega)]
    congr 2
    omega
theorem Rd.subT{α:Type}{f:α→List Value}{w:World}{sz n c l h m:Nat}{a:Option Addr}{xs:List α}(hf:∀ x,(f x).length=sz)(hr:Rd w sz a n c (xs.flatMap f))(h1:l≤h)(h2:h≤m)(h3:m≤c)(h4:h≤n):Rd w sz (subA a sz l m) (h-l) (m-l) (((xs.drop l).take (h-l)).flatMap f):=by
  have:=hr.sub h1 h2 h3 h4
  rw [flat_drop f sz hf,flat_take f sz hf] at this
  exact this
variable {C:Cx} {A A' A1 A2 B B':List Assn} {w:World} {Q:Exit→Act→World→Prop} {S:World→Prop} {env:Env} {ops:Array Oper} {r:Sd} {i d:Nat} {o:Oper} {v:Value} {cl:Cl}
variable {ty T:TypeId} {pos:String} {af:Array Edge} {gd:Option (Nat×Bool)} {x y:Operand}
namespace D
variable {W:World→Prop} {t u:TypeId} {ds:Option Tmp}
theorem sliceLH{e sz n c l h:Nat}{a:Option Addr}{lo hi:Operand} [ht:SlT C.P t e] [hs:Sz C.P e sz](hx:ev env x=some (.slice a n c))(hlo:ev env lo=some (.int .i64 (l:Int)))(hhi:ev env hi=some (.int .i64 (h:Int)))(h1:l≤h∧h≤c):Det C W env ⟨ds,.slice t x (some lo) (some hi) none,ty,pos,af,gd⟩ (.slice (subA a sz l c) (h-l) (c-l)):=⟨fun ac w he _=>by
  have e1:(h:Int)≤(c:Int):=by omega
  have e2:(l:Int)≤(h:Int):=by omega
  simp [execOp,he.ev hx,he.ev hlo,he.ev hhi,Instr.sliceAt,run_underlying ht.und,Instr.slice,Instr.sliceBounds,Instr.sliceBound,asIntOf,h1.1,h1.2,hs.run,subA]⟩
theorem sliceL{e sz n c l:Nat}{a:Option Addr}{lo:Operand} [ht:SlT C.P t e] [hs:Sz C.P e sz](hx:ev env x=some (.slice a n c))(hlo:ev env lo=some (.int .i64 (l:Int)))(h1:l≤n):Det C W env ⟨ds,.slice t x (some lo) none none,ty,pos,af,gd⟩ (.slice (subA a sz l c) (n-l) (c-l)):=⟨fun ac w he _=>by
  simp [execOp,he.ev hx,he.ev hlo,Instr.sliceAt,run_underlying ht.und,Instr.slice,Instr.sliceBounds,Instr.sliceBound,asIntOf,h1,hs.run,subA]⟩
theorem sliceH{e sz n c h:Nat}{a:Option Addr}{hi:Operand} [ht:SlT C.P t e] [hs:Sz C.P e sz](hx:ev env x=some (.slice a n c))(hhi:ev env hi=some (.int .i64 (h:Int)))(h1:h≤c):Det C W env ⟨ds,.slice t x none (some hi) none,ty,pos,af,gd⟩ (.slice (subA a sz 0 c) h c):=⟨fun ac w he _=>by
  simp [execOp,he.ev hx,he.ev hhi,Instr.sliceAt,run_underlying ht.und,Instr.slice,Instr.sliceBounds,Instr.sliceBound,asIntOf,h1,hs.run,subA]⟩
theorem sliceHM{e sz n c h m:Nat}{a:Option Addr}{hi mx:Operand} [ht:SlT C.P t e] [hs:Sz C.P e sz](hx:ev env x=some (.slice a n c))(hhi:ev env hi=some (.int .i64 (h:Int)))(hmx:ev env mx=some (.int .i64 (m:Int)))(h1:h≤m∧m≤c):Det C W env ⟨ds,.slice t x none (some hi) (some mx),ty,pos,af,gd⟩ (.slice (subA a sz 0 m) h m):=⟨fun ac w he _=>by
  have e1:(h:Int)≤(m:Int):=by omega
  simp [execOp,he.ev hx,he.ev hhi,he.ev hmx,Instr.sliceAt,run_underlying ht.und,Instr.slice,Instr.sliceBounds,Instr.sliceBound,asIntOf,h1.1,h1.2,hs.run,subA]⟩
theorem cap{t e n c:Nat}{ad:Option Addr} [h:SlT C.P t e](hx:ev env x=some (.slice ad n c)):Det C W env ⟨ds,.call ⟨.builtin .cap,#[x],#[t]⟩,ty,pos,af,gd⟩ (.int .i64 c):=⟨fun a w he _=>by
  simp [execOp,resolve,invoke,builtin,Builtin.cap_,he.ev hx,run_underlying h.und,goInt]⟩
theorem shr{k k':IntKind}{a b:Int}(hx:ev env x=some (.int k a))(hy:ev env y=some (.int k' b))(hb:0≤b):Det C W env ⟨ds,.binOp .shr t x y u,ty,pos,af,gd⟩ (.int k (a.fdiv (2^(min b.toNat k.bits)))):=⟨fun ac w he _=>by
  have: ¬b<0:=by omega
  simp [execOp,he.ev hx,he.ev hy,eqGuard,binOp,Op.shift,this]⟩
theorem shl{k k':IntKind}{a b:Int}(hx:ev env x=some (.int k a))(hy:ev env y=some (.int k' b))(hb:0≤b):Det C W env ⟨ds,.binOp .shl t x y u,ty,pos,af,gd⟩ (.int k (k.wrap (a*2^(min b.toNat k.bits)))):=⟨fun ac w he _=>by
  have: ¬b<0:=by omega
  simp [execOp,he.ev hx,he.ev hy,eqGuard,binOp,Op.shift,this]⟩
theorem eqNilP{e:Nat}{p:Option Addr} [h:PtrT C.P t e](hx:ev env x=some (.pointer p))(hy:ev env y=some (.pointer none)):Det C W env ⟨ds,.binOp .eql t x y u,ty,pos,af,gd⟩ (.bool p.isNone):=⟨fun ac w he _=>by
  have hp:C.P.underlying t=some (.pointer (C.P.pointee t)):=by rw [h.und];simp [Program.pointee,h.und]
  simp [execOp,he.ev hx,he.ev hy,eqGuard,binOp,run_equal_pointer_nil w t p hp]⟩
theorem neNilP{e:Nat}{p:Option Addr} [h:PtrT C.P t e](hx:ev env x=some (.pointer p))(hy:ev env y=some (.pointer none)):Det C W env ⟨ds,.binOp .neq t x y u,ty,pos,af,gd⟩ (.bool (!p.isNone)):=⟨fun ac w he _=>by
  have hp:C.P.underlying t=some (.pointer (C.P.pointee t)):=by rw [h.und];simp [Program.pointee,h.und]
  simp [execOp,he.ev hx,he.ev hy,eqGuard,binOp,run_equal_pointer_nil w t p hp]⟩
end D
theorem at_zero(a:Addr):a.add 0=a:=by simp [Addr.add]
class Part (cs:List Value) (o k:Nat) (cs':outParam (List Value)):Prop where at_:∀ (j:Nat) (u:Value),cs'[j]?=some u→cs[o+j]?=some u
instance {cs:List Value}:Part cs 0 0 []:=⟨fun j u h=>by cases h⟩
instance {a:Value} {cs cs':List Value} {k:Nat} [h:Part cs 0 k cs']:Part (a::cs) 0 (k+1) (a::cs'):=⟨fun j u hj=>by
  cases j with
  |zero=>simpa using hj
  |succ j=>
    have:=h.at_ j u (by simpa using hj)
    simp only [Nat.zero_add] at this
    simpa using this⟩
instance {a:Value} {cs cs':List Value} {o k:Nat} [h:Part cs o k cs']:Part (a::cs) (o+1) k cs':=⟨fun j u hj=>by
  have:=h.at_ j u hj
  have e:o+1+j=(o+j)+1:=by omega
  rw [e]
  simpa using this⟩
theorem D.loadP{S':List Assn}{t:TypeId}{ds:Option Tmp}{g o sz T' j:Nat}{cs cs':List Value} [h:Ag C.P t] [hs:Sz C.P t sz](hx:ev env x=some (.pointer (some ⟨g,o,none⟩))) [hl:Loc S' g cs T' j] [hp:Part cs o sz cs'](hlen:(cs'.length==sz)=true):Det C (fun w=>Conf C S' w) env ⟨ds,.load t x,ty,pos,af,gd⟩ (.agg cs'.toArray):=
  D.loadN hx hlen (fun w hw i u hu=>by rw [at_add];exact hw.cellAt hl.at_ (hp.at_ i u hu))
def vw (sz0:Nat) (a0:Option Addr) (n0 c0:Nat) (xs0:List Value) (T sz:Nat) (a:Option Addr) (n c:Nat) (xs:List Value):Assn where
  holds w F:=(own T sz (.slice a n c) n xs).holds w F∨((∀ b,¬F b)∧∀ w',Rd w' sz0 a0 n0 c0 xs0→Rd w' sz a n c xs)
  loc:=fun h hk=>h.imp (fun h=>(own _ _ _ _ _).loc h hk) id
  dom:=fun h hb=>by
    rcases h with h|h
    · exact(own _ _ _ _ _).dom h hb
    · exact absurd hb (h.1 _)
theorem Conf.vwRd{sz0:Nat}{a0:Option Addr}{n0 c0:Nat}{xs0:List Value}{T sz:Nat}{a:Option Addr}{n c:Nat}{xs:List Value}{j:Nat}(h:Conf C A w)(hi:A[j]?=some (vw sz0 a0 n0 c0 xs0 T sz a n c xs))(h0:Rd w sz0 a0 n0 c0 xs0):Rd w sz a n c xs:=by
  obtain⟨F,hF,_⟩:=h.get hi
  rcases hF with hF|⟨_,hF⟩
  · exact(own_rd hF).1
  · exact hF w h0
class VwA (A:List Assn) (a:Option Addr) (sz0:outParam Nat) (a0:outParam (Option Addr)) (n0 c0:outParam Nat) (xs0:outParam (List Value)) (T sz n c:outParam Nat) (xs:outParam (List Value)) (i:outParam Nat):Prop where at_:A[i]?=some (vw sz0 a0 n0 c0 xs0 T sz a n c xs)
instance {A:List Assn} {a a0:Option Addr} {sz0 n0 c0 T sz n c:Nat} {xs0 xs:List Value}:VwA (vw sz0 a0 n0 c0 xs0 T sz a n c xs::A) a sz0 a0 n0 c0 xs0 T sz n c xs 0:=⟨rfl⟩
instance (priority:=low) {A:List Assn} {q:Assn} {a a0:Option Addr} {sz0 n0 c0 T sz n c i:Nat} {xs0 xs:List Value} [h:VwA A a sz0 a0 n0 c0 xs0 T sz n c xs i]:VwA (q::A) a sz0 a0 n0 c0 xs0 T sz n c xs (i+1):=⟨by simpa using h.at_⟩
theorem Conf.vrd{a a0:Option Addr}{sz0 n0 c0 T sz n c i:Nat}{xs0 xs:List Value} [hv:VwA A a sz0 a0 n0 c0 xs0 T sz n c xs i](h:Conf C A w)(h0:Rd w sz0 a0 n0 c0 xs0):Rd w sz a n c xs:=h.vwRd hv.at_ h0
theorem Conf.vwNew{sz0:Nat}{a0:Option Addr}{n0 c0:Nat}{xs0:List Value}{T sz:Nat}{a:Option Addr}{n c:Nat}{xs:List Value}(h:Conf C A w)(hv:∀ w',Rd w' sz0 a0 n0 c0 xs0→Rd w' sz a n c xs):Conf C (vw sz0 a0 n0 c0 xs0 T sz a n c xs::A) w:=
  h.new rfl rfl rfl (Nat.le_refl _) (Nat.le_refl _) (fun _ _=>rfl) ⟨fun _=>False,.inr ⟨fun _ h=>h,hv⟩,fun _ h=>h.elim⟩
theorem Conf.vwOwn{sz0:Nat}{a0:Option Addr}{n0 c0:Nat}{xs0:List Value}{T sz:Nat}{a:Option Addr}{n c:Nat}{xs:List Value}(h:Conf C (own T sz (.slice a n c) n xs::A) w):Conf C (vw sz0 a0 n0 c0 xs0 T sz a n c xs::A) w:=by
  have:=h.update (i:=0) (p:=own T sz (.slice a n c) n xs) (q:=vw sz0 a0 n0 c0 xs0 T sz a n c xs) rfl rfl rfl rfl (Nat.le_refl _) (Nat.le_refl _) fun F hF=>⟨F,.inl hF,fun b hb=> .inl hb,fun _ _ _=>rfl⟩
  simpa using this
theorem append_view{P:Program}{w:World}(t ty e:TypeId)(sz bytes:Nat) [ht:SlT P t e] [he:ElT P e sz bytes]{a:Option Addr}{n:Nat}{xs:List Value}(hr:Rd w sz a n n xs)(x:Value)(m:Nat)(news:List Value)(hm:0<m)(hsrc:Src w sz x m news)
    (h63:n+m≤maxLen) (hbytes:(n+m)*bytes≤140737488355328) (ha:n=0→a=none∨a.isSome=true):
    ∃ g c' w',(Builtin.append_ #[t,t] ty #[.slice a n n,x]).run P w= .ok (.slice (some ⟨g,0,none⟩) (n+m) c') w'∧w'.ownsRow 0 e sz (.slice (some ⟨g,0,none⟩) (n+m) c') (n+m) (xs++news)∧w.grownBy w' none∧w.drawn≤w'.drawn∧w.heap.size≤g:=by
  obtain⟨i,z,hi,hz,rfl,rfl,hzs,hsz⟩:=he.info
  obtain⟨hl,hx⟩:=hsrc
  have hsmall:n+m≤9223372036854775807:=by simp only [maxLen] at h63;omega
  rcases hx with⟨q,c,rfl,hnews⟩|⟨c,rfl,rfl⟩
  · cases a with
    |none=>
      have hn:n=0:=by
        rcases Nat.eq_zero_or_pos n with h|h
        · exact h
        · have:=hr.sm h;simp at this
      subst hn
      have hxs:xs=[]:=List.length_eq_zero_iff.1 (by have:=hr.len;simpa using this)
      subst hxs
      have hrun:=run_append_nil (P:=P) w t ty e i z ht.und hi hz q m c news hl hnews hm (by omega) (by have hb:=hbytes;simp only [Nat.zero_add] at hb;omega)
      have hgr:=grown_new (w:=w) (n:=0) (old:=0) (e:=e) (xs:=[]) hzs (by simp) hl h63 none
      simp only [Nat.zero_add,List.nil_append,Array.empty_append] at hgr ⊢
      exact⟨_,_,_,hrun,hgr.1,hgr.2,by simp,Nat.le_refl _⟩
    |some p=>
      have holds:∀ j u,xs[j]?=some u→w.cell? (p.add j)=some u:=hr.cell
      have hrun:=run_append_grow (P:=P) w t ty e i z ht.und hi hz p n n xs hr.len holds q m c news hl hnews (by omega) (by omega) (growslice_fits (by omega) hbytes)
      have hgr:=grown_new (w:=w) (n:=n) (old:=n) (e:=e) hzs hr.len hl h63 none
      exact⟨_,_,_,hrun,hgr.1,hgr.2,by simp,Nat.le_refl _⟩
  · omega
theorem Conf.grew{T sz n g:Nat}{v:Value}{xs:List Value}{w':World}(h:Conf C A w)(hown:w'.ownsRow 0 T sz v n xs)(hg:w.grownBy w' none)(hdr:w.drawn≤w'.drawn)(hb:∀ b,v.ownBlock=some b→w.heap.size≤b):Conf C (own T sz v n xs::A) w':=
  h.new hg.os hg.tape hg.output hg.size hdr (fun b hb=>hg.block b hb (by simp)) ⟨fun b=>v.ownBlock=some b,⟨hown,fun _=>Iff.rfl⟩,hb⟩
theorem XL.appendN{t e sz bytes n m c2:Nat}{a a2:Option Addr}{xs news:List Value}(ho:ops[i]?=some ⟨some d,.call ⟨.builtin .append,#[x,y],#[t,t]⟩,ty,pos,af,gd⟩)(hg:gok ops env ⟨some d,.call ⟨.builtin .append,#[x,y],#[t,t]⟩,ty,pos,af,gd⟩=some true)(hdn:Nat.blt d C.n.n=true)
    [ht:SlT C.P t e] [he:ElT C.P e sz bytes] (hx:ev env x=some (.slice a n n)) (hy:ev env y=some (.slice a2 m c2)) (hm:0<m)
    (hold:∀ w,Conf C A w→Rd w sz a n n xs) (hsrc:∀ w,Conf C A w→Rd w sz a2 m c2 news) (h63:n+m≤maxLen∧(n+m)*bytes≤140737488355328)
    (haf:∀ g c',After cl S C (own e sz (.slice (some ⟨g,0,none⟩) (n+m) c') (n+m) (xs++news)::A))
    (k:∀ g c',XL C ops Q S r ((d,.slice (some ⟨g,0,none⟩) (n+m) c')::env) (own e sz (.slice (some ⟨g,0,none⟩) (n+m) c') (n+m) (xs++news)::A)):XL C ops Q S (.op cl i r) env A:=by
  refine XL.chg ho hg rfl hdn fun ac w hE hc=>?_
  have hrd:=hsrc w hc
  have hs:Src w sz (.slice a2 m c2) m news:=by
    refine⟨hrd.len,.inl ?_⟩
    obtain⟨p,rfl⟩:=Option.isSome_iff_exists.1 (hrd.sm hm)
    exact⟨p,c2,rfl,fun j u hu=>hrd.cell j u hu⟩
  obtain⟨g,c',w',hr,h2,h3,hdr,h4⟩:=append_view (P:=C.P) t ty e sz bytes (hold w hc) _ m news hm hs h63.1 h63.2 (fun _=>by cases a<;>simp)
  exact⟨_,_,w',by simp [execOp,resolve,invoke,builtin,hE.ev hx,hE.ev hy,hr],hc.grew (g:=g) h2 h3 hdr (fun b hb=>by simp [Value.ownBlock] at hb;omega),haf g c',k g c'⟩
theorem XL.appendZ{t e sz bytes n:Nat}{ti:TypeId}(ho:ops[i]?=some ⟨some d,.call ⟨.builtin .append,#[x,y],#[t,ti]⟩,ty,pos,af,gd⟩)(hg:gok ops env ⟨some d,.call ⟨.builtin .append,#[x,y],#[t,ti]⟩,ty,pos,af,gd⟩=some true)(hdn:Nat.blt d C.n.n=true)
    [ht:SlT C.P t e] [hti:IntT C.P ti .i64] [he:ElT C.P e sz bytes] (hx:ev env x=some (.slice none 0 0)) (hy:ev env y=some (.int .i64 (n:Int))) (hn:0<n) (h63:n≤maxLen∧n*bytes≤140737488355328)
    (haf:∀ g c',After cl S C (own e sz (.slice (some ⟨g,0,none⟩) 0 c') 0 []::A))
    (k:∀ g c',n≤c'→XL C ops Q S r ((d,.slice (some ⟨g,0,none⟩) n c')::env) (own e sz (.slice (some ⟨g,0,none⟩) 0 c') 0 []::A)):XL C ops Q S (.op cl i r) env A:=by
  obtain⟨inf,z,hi,hz,rfl,rfl,hzs,hsz⟩:=he.info
  refine XL.chg ho hg rfl hdn fun ac w hE hc=>?_
  have hsmall:n≤9223372036854775807:=by have:=h63.1;simp only [maxLen] at this;omega
  have wn:IntKind.i64.wrap (n:Int)=n:=D.wrap64_fit (by omega)
  have h1: ¬(n:Int)<0:=by omega
  have h2: ¬((n:Int)*(inf.bytes:Int)>281474976710656):=by
    have:((n*inf.bytes:Nat):Int)≤140737488355328:=by omega
    rw [Int.natCast_mul] at this
    omega
  have h2': ¬(281474976710656<(n:Int)*(inf.bytes:Int)):=h2
  have h3: ¬n=0:=by omega
  have h4: ¬(9223372036854775807<(n:Int)):=by omega
  have h5: ¬(281474976710656<Builtin.nextslicecap n 0*inf.bytes):=by rw [nextslicecap_zero hn];omega
  have h6: ¬(inf.size=0):=by omega
  have hge:=grownCap_ge w n 0 e
  have hcm:grownCap w n 0 e≤maxLen:=grownCap_le_maxLen w n 0 e h63.1
  have hrun:(Builtin.append_ #[t,ti] ty #[.slice none 0 0,.int .i64 (n:Int)]).run C.P w= .ok (.slice (some ⟨w.heap.size,0,none⟩) n (grownCap w n 0 e)) (w.drew.alloc (.cells (Builtin.zeroCells z.cells n++Builtin.zeroCells z.cells (grownCap w n 0 e-n)) e)):=by
    simp [Builtin.append_,run_underlying ht.und,run_underlying hti.und,sizeOf,typeInfo,zeroValue,hi,hz,asInt,asIntOf,wn,h1,h2',h3,h4,h5,h6,Question.forced,run_firstCells_none,newRow,grownCap]
    intro h7
    have:=Nat.mul_pos hn hsz
    omega
  refine⟨_,_,_, ?_,hc.grew (g:=w.heap.size) (w':=w.drew.alloc (.cells (Builtin.zeroCells z.cells n++Builtin.zeroCells z.cells (grownCap w n 0 e-n)) e)) (v:= .slice (some ⟨w.heap.size,0,none⟩) 0 (grownCap w n 0 e)) (n:=0) (xs:=[]) (T:=e) (sz:=inf.size) ⟨by simp,.inr ⟨w.heap.size,grownCap w n 0 e,_,rfl,Nat.zero_le _,heap_alloc_new w.drew _,Nat.zero_le _,hcm, ?_,by simp⟩⟩ ⟨rfl,rfl,rfl,by simp,fun b hb _=>RowKit.Below.heap_alloc w.drew _ b hb⟩ (by simp) (fun b hb=>by simp [Value.ownBlock] at hb;omega),haf _ _,k _ _ hge⟩
  · simp [execOp,resolve,invoke,builtin,hE.ev hx,hE.ev hy,hrun]
  · rw [Array.size_append,size_zeroCells,size_zeroCells,hzs,←Nat.add_mul]
    congr 1
    omega
end Go.Lx
namespace Go.Lx
structure Frm (C:Cx) (A:List Assn) (w:World) (F:Nat→Prop):Prop where
  out:∀ b,F b→C.H b∨C.w0.heap.size≤b
  apart:∃ F2,Sep A w F2∧∀ b,F b→ ¬F2 b
structure RdX (w:World) (H:Nat→Prop) (sz:Nat) (a:Option Addr) (n c:Nat) (cs:List Value):Prop where
  rd:Rd w sz a n c cs
  out:∀ j v,cs[j]?=some v→ ¬H (el a j).block
variable {C:Cx} {A A' B B':List Assn} {w w':World} {Q:Exit→Act→World→Prop} {S:World→Prop} {env:Env} {ops:Array Oper} {r:Sd} {i d:Nat} {o:Oper} {v:Value} {cl:Cl}
variable {ty T:TypeId} {pos:String} {af:Array Edge} {gd:Option (Nat×Bool)} {x y:Operand}
theorem RdX.now{sz n c:Nat}{a:Option Addr}{cs:List Value}{P:Program}{m:Nat}{w0:World}{H:Nat→Prop}(h:RdX w0 H sz a n c cs)(hw:Conf ⟨P,m,w0,H⟩ A w):Rd w sz a n c cs:=
  Rd.conf (C:=⟨P,m,w0,H⟩) h.rd h.out hw
theorem Rd.toX{sz n c:Nat}{a:Option Addr}{cs:List Value}(h:Rd w sz a n c cs):RdX w (fun _=>False) sz a n c cs:=⟨h,fun _ _ _ h=>h⟩
theorem RdX.call{sz n c:Nat}{a:Option Addr}{cs:List Value}{P:Program}{m:Nat}{w0:World}{H F:Nat→Prop}(h:RdX w0 H sz a n c cs)(hw:Conf ⟨P,m,w0,H⟩ A w)(hF:Frm ⟨P,m,w0,H⟩ A' w F):RdX w F sz a n c cs:=
  ⟨h.now hw,fun j v hj hb=>by
    have hlt:=World.block_lt_of_cell? w0 _ (h.rd.cell j v hj)
    rcases hF.out _ hb with h1|h1
    · exact h.out j v hj h1
    · simp only at h1
      omega⟩
theorem RdX.call0{sz n c:Nat}{a:Option Addr}{cs:List Value}{P:Program}{m:Nat}{w0:World}{F:Nat→Prop}(h:Rd w0 sz a n c cs)(hw:Conf ⟨P,m,w0,fun _=>False⟩ A w)(hF:Frm ⟨P,m,w0,fun _=>False⟩ A' w F):RdX w F sz a n c cs:=
  h.toX.call hw hF
theorem Frm.own{F:Nat→Prop}{a:Option Addr}{n c sz i:Nat}{xs:List Value} [h:OwnA A a n c T sz xs i](hF:Frm C A w F):RdX w F sz a n c xs:=by
  obtain⟨F2,hs,hd⟩:=hF.apart
  obtain⟨F1,hp,hsub⟩:=hs.get h.at_
  refine⟨(own_rd hp).1,fun j v hj hb=>?_⟩
  obtain⟨⟨hl,ho⟩,hF1⟩:=hp
  rcases ho with⟨he,hn⟩|⟨g,cap,cur,he,_⟩
  · subst hn
    have:xs=[]:=List.length_eq_zero_iff.1 (by simpa using hl)
    subst this
    cases hj
  · cases he
    have:el (some ⟨g,0,none⟩) j=⟨g,j,none⟩:=by simp [el,at_add]
    rw [this] at hb
    exact hd g hb (hsub g ((hF1 g).2 rfl))
theorem Frm.cell{F:Nat→Prop}{g i k:Nat}{cs:List Value}{u:Value} [h:Loc A g cs T i](hF:Frm C A w F)(hu:cs[k]?=some u):w.cell? ⟨g,k,none⟩=some u∧ ¬F g:=by
  obtain⟨F2,hs,hd⟩:=hF.apart
  obtain⟨F1,⟨h1,h2⟩,hsub⟩:=hs.get h.at_
  refine⟨by simp [World.cell?,h1,hu],fun hb=>hd g hb (hsub g ((h2 g).2 rfl))⟩
theorem XL.callFG{f:FuncId}{args:Array Operand}{ats:Array TypeId}{fx:Operand}{fs cps vs:List Value}{R:Value→List Assn→Prop}{ds:Option Nat}(ho:ops[i]?=some ⟨ds,.call ⟨.value fx,args,ats⟩,ty,pos,af,gd⟩)(hg:gok ops env ⟨ds,.call ⟨.value fx,args,ats⟩,ty,pos,af,gd⟩=some true)
    (hf:ev env fx=some (.func (.func f) fs.toArray cps.toArray)) (hargs:evs env args.toList=some vs) [hent:Enters C.P f]
    (hspec:∀ w F,Sep B w F→Frm C A w F→Conf C (B++A) w→Spec C.P f (fs++vs++cps).toArray w F R)
    (k:∀ v B',R v B'→(∀ d,ds=some d→Nat.blt d C.n.n=true)∧After cl S C (B'++A)∧XL C ops Q S r (match ds with|some d=>(d,v)::env|none=>env) (B'++A)):XL C ops Q S (.op cl i r) env (B++A):=by
  refine⟨fun a w he hc=>?_⟩
  have hargs':args.map a.eval=vs.toArray:=by
    apply Array.ext'
    rw [Array.toList_map]
    exact he.evs _ _ hargs
  have hrun:(execOp a.eval ⟨ds,.call ⟨.value fx,args,ats⟩,ty,pos,af,gd⟩).run C.P w= .ok (.enter f (fs++vs++cps).toArray) w:=by
    simp [execOp,resolve,he.ev hf,hargs',Deferred.ofValue,invoke,hent.run]
  obtain⟨F,s,hF⟩:=hc.sep
  obtain⟨F1,F2,s1,s2,hd,hFF⟩:=s.split
  have hsp:=hspec w F1 s1 ⟨fun b hb=>hF b ((hFF b).2 (.inl hb)),F2,s2,hd⟩ hc
  have hall:∀ K:Value→World→Prop,(∀ v B' w',R v B'→Conf C (B'++A) w'→K v w')→Calls C.P f (fs++vs++cps).toArray w fun
      | .returned v,w''=>K v w''
      | .panicked chain,w''=>Q (.panic chain) a w''
      | .outgrown,_=>LetsOut Q:=by
    intro K hK
    refine Calls.mono hsp ?_
    rintro e w' ⟨v,B',rfl,hR,hcf⟩
    refine hK v B' w' hR ?_
    obtain⟨G,g,gF⟩:=hcf.sep
    have hd2:∀ b,F2 b→b<w.heap.size:=fun b hb=>Sep.dom s2 hb
    refine⟨hcf.os.trans hc.os,hcf.tape.trans hc.tape,hcf.output.trans hc.output,Nat.le_trans hc.size hcf.size,trivial,fun b hb hH=>?_,fun b=>G b∨F2 b,Sep.append g (s2.loc fun b hb=>hcf.keep b (hd2 b hb) (fun h1=>hd b h1 hb)) ?_, ?_⟩
    · rw [hcf.keep b (Nat.lt_of_lt_of_le hb hc.size) (fun h1=>?_),hc.keep b hb hH]
      rcases hF b ((hFF b).2 (.inl h1)) with h2|h2
      · exact hH h2
      · omega
    · intro b hb hb2
      rcases gF b hb with h1|h1
      · exact hd b h1 hb2
      · have:=hd2 b hb2
        simp only at h1
        omega
    · rintro b (hb|hb)
      · rcases gF b hb with h1|h1
        · exact hF b ((hFF b).2 (.inl h1))
        · exact .inr (Nat.le_trans hc.size h1)
      · exact hF b ((hFF b).2 (.inr hb))
  have fin:wpOp C.P ops Q i (fun a' w'=>(cl= .fin∨S w')∧wpT C.P ops Q S r a' w') a w:=by
    unfold wpOp
    simp only [ho,gok_wanted hg he,if_true,Oper.wp,hrun,Oper.upon]
    refine .inl (hall _ fun v B' w' hR hcw=>?_)
    obtain⟨hdn,haf,hk⟩:=k v B' hR
    refine⟨?_, ?_⟩
    · rcases haf.ok with h|⟨_,h⟩
      · exact .inl h
      · exact .inr (h w' hcw)
    · cases ds with
      |none=>exact hk.go _ w' he hcw
      |some d=>exact hk.go _ w' (he.put (hdn d rfl) v) hcw
  have hcl:cl= .fin∨cl= .ch:=by
    obtain⟨e,w',fr,hR,_⟩:=hsp []
    obtain⟨v,B',_,hR,_⟩:=hR
    rcases(k v B' hR).2.1.ok with h|⟨h,_⟩
    · exact .inl h
    · exact .inr h
  rcases hcl with rfl|rfl
  · exact wpOp_mono (fun a' w' h=>h.2) fin
  · exact wpOp_mono (fun a' w' h=>⟨h.1.resolve_left (by simp),h.2⟩) fin
theorem Qo{f:FuncId}{args:Array Operand}{ats:Array TypeId}{vs:List Value}{R:Value→List Assn→Prop}(B:List Assn)(ho:ops[i]?=some ⟨some d,.call ⟨.value (.func f),args,ats⟩,ty,pos,af,gd⟩)(hg:gok ops env ⟨some d,.call ⟨.value (.func f),args,ats⟩,ty,pos,af,gd⟩=some true)(hdn:Nat.blt d C.n.n=true)
    (hargs:evs env args.toList=some vs) [hent:Enters C.P f] [ht:Takes A B A']
    (hspec:∀ w F,Sep B w F→Frm C A' w F→Conf C (B++A') w→Spec C.P f vs.toArray w F R)
    (k:∀ v B',R v B'→After cl S C (B'++A')∧XL C ops Q S r ((d,v)::env) (B'++A')):XL C ops Q S (.op cl i r) env A:=by
  refine XL.mem (B:=B++A') (fun w h=>h.takes2) ?_
  refine XL.callFG (B:=B) (fs:=[]) (cps:=[]) (f:=f) (ds:=some d) ho hg rfl hargs ?_ (fun v B' hR=>⟨fun d' h=>(by cases h;exact hdn),k v B' hR⟩)
  intro w F hF hm hc
  simpa using hspec w F hF hm hc
end Go.Lx
namespace Go.Lx
class Sets (cs:List Value) (o:Nat) (us:List Value) (cs':outParam (List Value)):Prop where
  eq:cs.take o++us++cs.drop (o+us.length)=cs'
  le:o+us.length≤cs.length
variable {C:Cx} {A A':List Assn} {Q:Exit→Act→World→Prop} {S:World→Prop} {env:Env} {ops:Array Oper} {r:Sd} {i:Nat} {cl:Cl}
variable {ty T:TypeId} {pos:String} {af:Array Edge} {gd:Option (Nat×Bool)} {x y:Operand}
theorem X.drawS{ops:Array Oper}{id:Nat} [hQ:NoPanic Q](As:List Assn)(hAs:∀ w,Conf C A w→Conf C As w)(σ:Sd)(hm:C.P.follows .mixedOrders=true)(hok:(noDefer ops&&schedOk ops σ)=true)(h:XL C ops Q (fun w=>Conf C As w) σ env A):X C (.region id ops true) Q env A:=
  ⟨fun a w he hc=>wpIn_region_draw fun t=>by
    simp only [Bool.and_eq_true] at hok
    exact wpOpsIn_of hok.1 _ _ _ (wpOps_draw σ hm hok.2 hQ.out (hAs _ hc.drew) (h.go a w.drew he hc.drew) t)⟩
end Go.Lx
