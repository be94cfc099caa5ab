import Derived.Test.YtakoppmiegjjlaaGreatDoorF8
import Derived.Test.YtakoppmiegjjlaaGreatDoorF2
import Derived.Test.YtakoppmiegjjlaaGreatDoorF4
import Derived.Test.YtakoppmiegjjlaaGreatDoorF3
import Derived.Shelf.Strings.SlTrimAscii
import Derived.Shelf.Strings.Repeat
import Derived.Shelf.Small.Strs
import Derived.Shelf.Strings.Runes
set_option linter.unusedVariables false
set_option linter.unusedSimpArgs false
set_option maxRecDepth 20000
set_option maxHeartbeats 4000000
namespace Go.Lx
theorem kindB_inj{k j:Int}(hk:1≤k∧k≤4)(hj:1≤j∧j≤4)(h:kindB k=kindB j):k=j:=by
  rcases(by omega:k=1∨k=2∨k=3∨k=4) with rfl|rfl|rfl|rfl<;>rcases(by omega:j=1∨j=2∨j=3∨j=4) with rfl|rfl|rfl|rfl<;>first|rfl|(revert h;decide)
theorem kindB_low(k:Int):∀ b∈kindB k,97≤b.toNat∧b.toNat≤122:=by
  intro b hb
  unfold kindB at hb
  split at hb
  · simp at hb;subst hb;decide
  · split at hb
    · simp at hb;subst hb;decide
    · split at hb<;>(simp at hb;subst hb;decide)
def nmT (v:Bs) (k q:Int):Bs:=preB v k++hexN 10 q.toNat
theorem pre_len(v:Bs)(k:Int):(preB v k).length=v.length+3:=by
  have:=kind_len k
  simp [preB,this]
theorem nmT_len(v:Bs)(k q:Int):(nmT v k q).length=v.length+13:=by
  simp [nmT,pre_len,hexN_len]
def seqOK (q:Int):Prop:=0≤q∧q<1099511627776
instance decSeqOK (q:Int):Decidable (seqOK q):=by unfold seqOK;infer_instance
theorem seqOK.pow{q:Int}(h:seqOK q):q.toNat<16^10:=by unfold seqOK at h;omega
def letB:Bs:=[97,98,99,100,101,102,103,104,105,106,107,108,109,110,111,112,113,114,115,116,117,118,119,120,121,122,48,49,50,51,52,53,54,55,56,57,46,45,95,47]
set_option maxRecDepth 100000 in
theorem letB_of{b:UInt8}(h:nameC b.toNat∨b=47):b∈letB:=by
  rcases h with h|rfl
  · have hall:∀ n,n<256→nameC n→UInt8.ofNat n∈letB:=by decide
    have:=hall b.toNat b.toNat_lt h
    simpa using this
  · decide
theorem hexN_name:∀ (k n:Nat),∀ b∈hexN k n,nameC b.toNat
  |0,n,b,h=>by simp [hexN] at h
  |k+1,n,b,h=>by
    simp only [hexN,List.mem_append,List.mem_singleton] at h
    rcases h with h|rfl
    · exact hexN_name k _ b h
    · rw [hexD_nat (Nat.mod_lt _ (by decide))]
      have:=Nat.mod_lt n (show 16>0 by decide)
      unfold nameC
      split<;>omega
theorem nmT_bytes{v:Bs}(hv:VolOK v)(k q:Int):∀ b∈nmT v k q,nameC b.toNat∨b=47:=by
  intro b hb
  simp only [nmT,preB,List.mem_append,List.mem_singleton] at hb
  rcases hb with(((h|h)|h)|h)|h
  · exact .inl (hv.1 b h)
  · exact .inr h
  · exact .inl (.inl (kindB_low k b h))
  · exact .inr h
  · exact .inl (hexN_name _ _ b h)
theorem nmT_let{v:Bs}(hv:VolOK v)(k q:Int):∀ b∈nmT v k q,b∈letB:=fun b hb=>letB_of (nmT_bytes hv k q b hb)
theorem no_slash{v:Bs}(hv:VolOK v){j:Nat}(h:v[j]?=some 47):False:=by
  have:=hv.1 47 (List.mem_of_getElem? h)
  revert this;decide
theorem vol_split{v u:Bs}(hv:VolOK v)(hu:VolOK u){x y:Bs}(h:v++47::x=u++47::y):v=u∧x=y:=by
  have hl:v.length=u.length:=by
    rcases Nat.lt_trichotomy v.length u.length with g|g|g
    · have h1:(v++47::x)[v.length]?=some 47:=by simp
      rw [h,List.getElem?_append_left g] at h1
      exact(no_slash hu h1).elim
    · exact g
    · have h1:(u++47::y)[u.length]?=some 47:=by simp
      rw [←h,List.getElem?_append_left g] at h1
      exact(no_slash hv h1).elim
  obtain⟨h1,h2⟩:=List.append_inj h hl
  exact⟨h1,by simpa using h2⟩
theorem nmT_split{v u:Bs}(hv:VolOK v)(hu:VolOK u){k j q:Int}(hk:1≤k∧k≤4)(hj:1≤j∧j≤4)(h:(nmT u j q).take (preB v k).length=preB v k):v=u∧k=j:=by
  have h1:preB v k++(nmT u j q).drop (preB v k).length=nmT u j q:=by
    conv=>rhs;rw [←List.take_append_drop (preB v k).length (nmT u j q),h]
  have h2:v++47::(kindB k++47::(nmT u j q).drop (preB v k).length)=u++47::(kindB j++47::hexN 10 q.toNat):=by
    have:∀ (a:Bs) (i:Int) (z:Bs),preB a i++z=a++47::(kindB i++47::z):=fun a i z=>by simp [preB]
    rw [←this,←this,h1]
    rfl
  obtain⟨h3,h4⟩:=vol_split hv hu h2
  obtain⟨h5,_⟩:=List.append_inj h4 (by rw [kind_len,kind_len])
  exact⟨h3,kindB_inj hk hj h5⟩
theorem nmT_pre(v:Bs)(k q:Int):(nmT v k q).take (preB v k).length=preB v k:=by simp [nmT]
theorem nmT_inj{v u:Bs}(hv:VolOK v)(hu:VolOK u){k j q p:Int}(hk:1≤k∧k≤4)(hj:1≤j∧j≤4)(hq:seqOK q)(hp:seqOK p)(h:nmT v k q=nmT u j p):v=u∧k=j∧q=p:=by
  obtain⟨rfl,rfl⟩:=nmT_split hv hu hk hj (h▸nmT_pre v k q)
  have h1:hexN 10 q.toNat=hexN 10 p.toNat:=List.append_cancel_left h
  have h2:=hexN_inj 10 hq.pow hp.pow h1
  unfold seqOK at hq hp
  exact⟨rfl,rfl,by omega⟩
theorem lt_append_left{a b:Bs}:∀ (p:Bs),a<b→p++a<p++b
  |[],h=>h
  |x::p,h=>List.Lex.cons (lt_append_left p h)
theorem nmT_lt{v:Bs}{k q p:Int}(hq:seqOK q)(hp:seqOK p)(h:q<p):nmT v k q<nmT v k p:=by
  have h1:=hp.pow
  unfold seqOK at hq hp
  exact lt_append_left _ (hexN_lt 10 h1 (by omega))
theorem nmT_lt'{v:Bs}{k q p:Int}(hq:seqOK q)(hp:seqOK p)(h:nmT v k q<nmT v k p):q<p:=by
  rcases Int.lt_trichotomy q p with g|g|g
  · exact g
  · subst g;exact absurd h (List.lt_irrefl _)
  · exact absurd (List.lt_trans h (nmT_lt hp hq g)) (List.lt_irrefl _)
def valN (s:Bs):Nat:=s.foldl (fun n b=>16*n+(unD b).getD 0) 0
theorem valN_hexN:∀ (k n:Nat),n<16^k→valN (hexN k n)=n
  |0,n,h=>by simp at h;subst h;rfl
  |k+1,n,h=>by
    rw [Nat.pow_succ] at h
    have ih:=valN_hexN k (n/16) (Nat.div_lt_of_lt_mul (by omega))
    unfold valN at ih ⊢
    rw [hexN,List.foldl_append,ih]
    simp only [List.foldl_cons,List.foldl_nil,unD_hexD (Nat.mod_lt n (show 16>0 by decide)),Option.getD_some]
    omega
theorem valN_take(k n i:Nat)(hi:i<k):16*(n/16^(k-i))+n/16^(k-1-i)%16=n/16^(k-(i+1)):=by
  obtain⟨j,rfl⟩:∃ j,k=j+1+i:=⟨k-1-i,by omega⟩
  rw [show j+1+i-i=j+1 from by omega,show j+1+i-1-i=j from by omega,show j+1+i-(i+1)=j from by omega,Nat.pow_succ,←Nat.div_div_eq_div_mul]
  omega
def NamesV {β:Type} (v:Bs) (L:List (Bs×β)):Prop:=∀ p∈L,∃ k q,(1≤k∧k≤4)∧seqOK q∧p.1=nmT v k q
theorem NamesV.ins{β:Type}{v:Bs}{L:List (Bs×β)}(h:NamesV v L){k q:Int}(hk:1≤k∧k≤4)(hq:seqOK q)(d:β):NamesV v (insL L (nmT v k q) d):=fun p hp=>by
  rcases mem_insL.1 hp with rfl|hp
  · exact⟨k,q,hk,hq,rfl⟩
  · exact h p hp
def withP (p:Bs) (l:List Bs):List Bs:=l.filter fun s=>decide (s.take p.length=p)
def numsL {β:Type} (L:List (Bs×β)) (v:Bs) (k:Int):List Int:=(withP (preB v k) (keyT L)).map fun s=>((valN (s.drop (preB v k).length):Nat):Int)
theorem withP_mem{β:Type}{L:List (Bs×β)}{u v:Bs}{k:Int}(hL:NamesV u L)(hu:VolOK u)(hv:VolOK v)(hk:1≤k∧k≤4):∀ s∈withP (preB v k) (keyT L),u=v∧∃ q,seqOK q∧s=nmT v k q∧((valN (s.drop (preB v k).length):Nat):Int)=q:=by
  intro s hs
  simp only [withP,List.mem_filter,decide_eq_true_eq] at hs
  obtain⟨h1,h2⟩:=hs
  obtain⟨p,hp,rfl⟩:=List.mem_map.1 h1
  obtain⟨j,q,hj,hq,he⟩:=hL p hp
  rw [he] at h2 ⊢
  obtain⟨rfl,rfl⟩:=nmT_split hv hu hk hj h2
  refine⟨rfl,q,hq,rfl, ?_⟩
  rw [show(nmT v k q).drop (preB v k).length=hexN 10 q.toNat from by simp [nmT],valN_hexN 10 _ hq.pow]
  unfold seqOK at hq
  omega
theorem withP_nums{β:Type}{L:List (Bs×β)}{u v:Bs}{k:Int}(hL:NamesV u L)(hu:VolOK u)(hv:VolOK v)(hk:1≤k∧k≤4):withP (preB v k) (keyT L)=(numsL L v k).map (nmT v k):=by
  unfold numsL
  rw [List.map_map]
  conv=>lhs;rw [←List.map_id (withP (preB v k) (keyT L))]
  refine List.map_congr_left fun s hs=>?_
  obtain⟨_,q,hq,h1,h2⟩:=withP_mem hL hu hv hk s hs
  simp only [id_eq,Function.comp,h2]
  exact h1
theorem nums_ok{β:Type}{L:List (Bs×β)}{u v:Bs}{k:Int}(hL:NamesV u L)(hu:VolOK u)(hv:VolOK v)(hk:1≤k∧k≤4):∀ q∈numsL L v k,seqOK q:=by
  intro q hq
  obtain⟨s,hs,rfl⟩:=List.mem_map.1 hq
  obtain⟨_,q,hq,h1,h2⟩:=withP_mem hL hu hv hk s hs
  simp only [h2]
  exact hq
theorem nums_rise{β:Type}{L:List (Bs×β)}{u v:Bs}{k:Int}(hL:NamesV u L)(hr:RiseT L)(hu:VolOK u)(hv:VolOK v)(hk:1≤k∧k≤4):(numsL L v k).Pairwise (· < ·):=by
  have h1:(keyT L).Pairwise (· < ·):=List.pairwise_map.2 hr
  have h2:(withP (preB v k) (keyT L)).Pairwise (· < ·):=h1.filter _
  rw [withP_nums hL hu hv hk,List.pairwise_map] at h2
  exact h2.imp_of_mem fun ha hb h=>nmT_lt' (nums_ok hL hu hv hk _ ha) (nums_ok hL hu hv hk _ hb) h
theorem nums_mem{β:Type}{L:List (Bs×β)}{u v:Bs}{k:Int}(hL:NamesV u L)(hu:VolOK u)(hv:VolOK v)(hk:1≤k∧k≤4){q:Int}(hq:q∈numsL L v k):nmT v k q∈keyT L:=by
  have:nmT v k q∈(numsL L v k).map (nmT v k):=List.mem_map.2 ⟨q,hq,rfl⟩
  rw [←withP_nums hL hu hv hk] at this
  exact(List.mem_filter.1 this).1
end Go.Lx
namespace Go.Lx
open Go.Proofs
section
variable {C:Cx} {env:Env} {W:World→Prop} {x y lo:Operand} {ty t u:TypeId} {pos:String} {af:Array Edge} {gd:Option (Nat×Bool)} {ds:Option Tmp}
theorem D.sliceAL{n e sz l:Nat}{p:Addr} [h:ArrT C.P t n e] [hs:Sz C.P e sz](hx:ev env x=some (.pointer (some p)))(hlo:ev env lo=some (.int .i64 (l:Int)))(h1:l≤n):Det C W env ⟨ds,.slice t x (some lo) none none,ty,pos,af,gd⟩ (.slice (subA (some p) sz l n) (n-l) (n-l)):=⟨fun ac w he _=>by
  simp [execOp,he.ev hx,he.ev hlo,Instr.sliceAt,run_underlying h.und,Instr.sureAddr,Instr.sliceBounds,Instr.sliceBound,asIntOf,h1,hs.run,subA]
  split<;>rfl⟩
theorem D.and1615(hx:ev env x=some (.int .i64 16))(hy:ev env y=some (.int .i64 15)):Det C W env ⟨ds,.binOp .and t x y u,ty,pos,af,gd⟩ (.int .i64 0):=⟨fun ac w he _=>by
  simp only [execOp,he.ev hx,he.ev hy]
  simp [eqGuard,binOp,Op.intBits]
  decide⟩
end
def Tab (w:World) (H:Nat→Prop):Prop:=w.cell? ⟨3,15,none⟩=some (.int .u8 4)∧ ¬H 3
section
variable {A A':List Assn} {P:Program} {m:Kd} {w w0:World} {H F:Nat→Prop}
theorem Tab.now(h:Tab w0 H)(hw:Conf ⟨P,m,w0,H⟩ A w):Tab w (fun _=>False):=⟨hw.cell0 h.1 h.2,fun h=>h⟩
theorem Tab.call(h:Tab w0 H)(hw:Conf ⟨P,m,w0,H⟩ A w)(hF:Frm ⟨P,m,w0,H⟩ A' w F):Tab w F:=
  ⟨hw.cell0 h.1 h.2,fun hb=>by
    have hlt:=World.block_lt_of_cell? w0 _ h.1
    rcases hF.out _ hb with h1|h1
    · exact h.2 h1
    · simp only at h1 hlt;omega⟩
end
theorem tz64_spec(w:World)(hT:Tab w (fun _=>False)):Spec Tryz.prog 329 #[.int .u64 16] w (fun _=>False) (fun v A=>v=Zj 4∧A=[]):=by
  refine Zn Tryz.func329 Tryz.ntmps329 ?_
  ((refine Zt ?_<;>repeat' first|refine Z.p rfl ?_|refine Qf ?_)<;>refine X.seq ?_<;>((refine Zt ?_<;>repeat' first|refine Z.p rfl ?_|(refine Za 1 ?_;(refine Z.cf rfl (by decide) ?_))|refine Qf ?_)<;>(first|(refine Zu ?_;(refine Zt ?_<;>repeat' first|refine Z.p rfl ?_|refine Qf ?_)<;>(apply X.r1 Tryz.results329 (Qh rfl);(focus(exact⟨rfl,rfl⟩));exact Zd))|refine Zm ?_))<;>(first|refine Ex.then ?_|refine N.next ?_<;>((refine Zt ?_<;>repeat' first|(refine Za 2 ?_;(refine XL.dt (v:= .int .u64 18446744073709551600) rfl (fun _ _ _ _=>D.negN (a:=16) rfl rfl (by decide)) ?_))|refine Z.p rfl ?_|(refine Za 3 ?_;(refine XL.dt (v:= .int .u64 16) rfl (fun _ _ _ _=>D.andN (a:=16) (b:=18446744073709551600) rfl rfl rfl (by decide)) ?_))|(refine Za 4 ?_;(refine XL.dt (v:= .int .u64 4573923408821661840) rfl (fun _ _ _ _=>D.mulN (a:=16) (b:=285870213051353865) rfl rfl rfl (by decide)) ?_))|(refine Za 5 ?_;(refine XL.dt (v:= .int .u64 15) rfl (fun _ _ _ _=>D.shrN (a:=4573923408821661840) (b:=58) rfl rfl (by decide)) ?_))|(refine Za 6 ?_;(refine XL.dt (v:= .pointer (some ⟨3,0+15*1,none⟩)) rfl (fun _ _ _ _=>D.indexArr 15 rfl rfl rfl (by decide)) ?_))|(refine Za 7 ?_;(refine Z.la rfl rfl (fun w hw=>hw.cell0 hT.1 (fun h=>h)) ?_))|(refine Za 8 ?_;(refine XL.dt (v:=Zj 4) rfl (fun _ _ _ _=>D.conv64 (a:=4) rfl (by decide)) ?_))|refine Qf ?_)<;>(apply X.r1 Tryz.results329 (Qh rfl);(focus(exact⟨rfl,rfl⟩));exact Zd))))
theorem tz_spec(w:World)(hT:Tab w (fun _=>False)):Spec Tryz.prog 318 #[.int .u64 16] w (fun _=>False) (fun v A=>v=Zj 4∧A=[]):=by
  refine Zn Tryz.func318 Tryz.ntmps318 ?_
  ((refine Zt ?_<;>repeat' first|refine Z.p rfl ?_|refine Qf ?_)<;>refine X.seq ?_<;>((first|(refine Zu ?_;(refine Zt ?_<;>repeat' first|refine Z.p rfl ?_|refine Z.cv rfl rfl ?_|fail "op call"|refine Qf ?_)<;>(apply X.r1 Tryz.results318 (Qh rfl);(focus(exact⟨rfl,rfl⟩));exact Zd))|refine Zm ?_))<;>(first|refine Ex.then ?_|refine N.next ?_<;>((refine Zt ?_<;>repeat' first|refine Z.p rfl ?_|(refine Za 1 ?_;((refine XL.call rfl rfl rfl rfl (fun w hw=>tz64_spec w (hT.now hw)) (Zs ?_))))|refine Qf ?_)<;>(apply X.r1 Tryz.results318 (Qh rfl);(focus(exact⟨rfl,rfl⟩));exact Zd))))
theorem pow2_spec(w:World):Spec Tryz.prog 317 #[Zj 16] w (fun _=>False) (fun v A=>v= .bool true∧A=[]):=by
  refine Zn Tryz.func317 Tryz.ntmps317 ?_
  ((refine Zt ?_<;>repeat' first|refine Z.p rfl ?_|refine Qf ?_)<;>(refine Zt ?_<;>repeat' first|refine Z.p rfl ?_|(refine Za 2 ?_;(refine Z.g rfl (by decide) ?_))|(refine Za 3 ?_;(refine XL.dt rfl (fun _ _ _ _=>D.and1615 rfl rfl) ?_))|(refine Za 4 ?_;(refine Z.ct rfl (by decide) ?_))|refine Qf ?_)<;>(apply X.r1 Tryz.results317 (Qh rfl);(focus(exact⟨rfl,rfl⟩));exact Zd))
def c65 (j q:Nat):List Value:=List.replicate (65-j) (.int .u8 0)++encY (hexN j q)
theorem c65_set{j q:Nat}(h:j<65):SetAt (c65 j q) (0+(64-j)*1) (.int .u8 ((hexD (q/16^j%16)).toNat:Int)) (c65 (j+1) q):=by
  refine⟨?_, ?_⟩
  · unfold c65
    rw [hexN_front,show 65-j=(64-j)+1 from by omega,show 65-(j+1)=64-j from by omega,List.replicate_succ']
    rw [show 0+(64-j)*1=(List.replicate (64-j) (Value.int .u8 0)).length from by simp,List.append_assoc]
    simp [encY,encY1]
  · unfold c65
    simp [encY_len,hexN_len]
    omega
theorem c65_rd{C:Cx}{A:List Assn}{w:World}{g i j q:Nat}{T:TypeId} [h:Loc A g (c65 (j+1) q) T i](hw:Conf C A w)(hj:j≤64):Rd w 1 (subA (some ⟨g,0,none⟩) 1 (64-j) 65) (65-(64-j)) (65-(64-j)) (encY (hexN (j+1) q)):=by
  have hl:(c65 (j+1) q).length=65:=by unfold c65;simp [encY_len,hexN_len];omega
  have hfull:Rd w 1 (some ⟨g,0,none⟩) 65 65 (c65 (j+1) q):=⟨by rw [hl],Nat.le_refl _,by decide,fun _=>rfl,fun k v hk=>by
    have:el (some ⟨g,0,none⟩) k=⟨g,k,none⟩:=by simp [el,at_add]
    rw [this]
    exact hw.cellAt (Loc.at_) hk⟩
  have hs:=hfull.sub (l:=64-j) (h:=65) (m:=65) (by omega) (Nat.le_refl _) (Nat.le_refl _) (Nat.le_refl _)
  have e:((c65 (j+1) q).drop ((64-j)*1)).take ((65-(64-j))*1)=encY (hexN (j+1) q):=by
    unfold c65
    rw [show 65-(j+1)=64-j from by omega,Nat.mul_one,Nat.mul_one,List.drop_left' (by simp),List.take_of_length_le (by rw [encY_len,hexN_len];omega)]
  rw [e] at hs
  exact hs
def dig36:Bs:=[48,49,50,51,52,53,54,55,56,57,97,98,99,100,101,102,103,104,105,106,107,108,109,110,111,112,113,114,115,116,117,118,119,120,121,122]
theorem dig36_at:∀ d,d<16→dig36[d]?=some (hexD d):=by decide
instance zc65:Zc Tryz.prog 380 (List.replicate 65 (.int .u8 0)):=Zc.mk' (z:= .agg (Array.replicate 65 (.int .u8 0))) (by kernel_rfl) rfl
structure FB where
  i:Nat
  j:Nat
  u:Nat
theorem fmtBits_spec(w:World)(q:Nat)(hq:q<1099511627776)(hT:Tab w (fun _=>False)):Spec Tryz.prog 282 #[Zl,.int .u64 ((q:Nat):Int),Zj 16,.bool false,.bool false] w (fun _=>False) (fun v A=>∃ k,1≤k∧k≤10∧q<16^k∧v= .tuple #[Zl,.string ⟨List.toArray (hexN k q)⟩]∧A=[]):=by
  refine Zn Tryz.func282 Tryz.ntmps282 ?_
  ((refine Zt ?_<;>repeat' first|refine Z.p rfl ?_|refine Qf ?_)<;>refine X.seq ?_<;>((refine Zt ?_<;>repeat' first|refine Z.p rfl ?_|(refine Za 1 ?_;(refine Z.cf rfl (by decide) ?_))|(refine Za 4 ?_;(refine Z.cf rfl (by decide) ?_))|(refine Za 8 ?_;(refine Z.cf rfl (by decide) ?_))|refine Z.pk rfl rfl rfl rfl ?_|refine Qf ?_)<;>(first|(refine Zu ?_;refine Zx ?_<;>repeat' first|fail "op makeInterface"|fail "op panic"|refine XL.nil ?_)|refine Zm ?_))<;>(first|refine Ex.then ?_|refine N.next ?_<;>((refine Zt ?_<;>repeat' first|(refine Za 0 ?_;(refine XL.alloc rfl rfl rfl (k:=fun g12=>?_)))|refine Qf ?_)<;>(refine Zt ?_<;>repeat' first|(refine Za 0 ?_;(rw [show List.replicate 65 (Value.int .u8 0)=c65 0 q from(by simp [c65,hexN,encY])];refine Z.p rfl ?_))|refine Qf ?_)<;>refine X.seq ?_<;>((refine Zt ?_<;>repeat' first|refine Z.p rfl ?_|refine Qf ?_)<;>(first|(refine Zu ?_;refine Zx ?_<;>repeat' first|refine Z.p rfl ?_|refine XL.nil ?_)|refine Zm ?_))<;>(first|refine Ex.then ?_|refine N.next ?_<;>(refine X.seq ?_<;>((refine Zt ?_<;>repeat' first|refine Z.p rfl ?_|(refine Za 1 ?_;((refine XL.call rfl rfl rfl rfl (fun w hw=>pow2_spec w) (Zs ?_))))|refine Qf ?_)<;>(first|(refine Zu ?_;(refine Zt ?_<;>repeat' first|refine Z.p rfl ?_|(refine Za 1 ?_;(refine XL.dt (v:= .int .u64 16) rfl (fun _ _ _ _=>D.convN (a:=16) rfl rfl) ?_))|(refine Za 2 ?_;((refine XL.call rfl rfl rfl rfl (fun w hw=>tz_spec w (hT.now hw)) (Zs ?_))))|(refine Za 3 ?_;(refine XL.dt (v:= .int .u64 ((4:Nat):Int)) rfl (fun _ _ _ _=>D.convN (a:=4) rfl rfl) ?_))|refine Qf ?_)<;>(refine Zt ?_<;>repeat' first|refine Z.p rfl ?_|(refine Za 1 ?_;(refine XL.dt (v:= .int .u64 ((16:Nat):Int)) rfl (fun _ _ _ _=>D.convN (a:=16) rfl rfl) ?_))|refine Qf ?_)<;>(refine Zt ?_<;>repeat' first|refine Z.p rfl ?_|(refine Za 1 ?_;(refine XL.dt (v:= .int .u64 16) rfl (fun _ _ _ _=>D.convN (a:=16) rfl rfl) ?_))|(refine Za 2 ?_;(refine XL.dt (v:= .int .u64 ((15:Nat):Int)) rfl (fun _ _ _ _=>D.subN (a:=16) (b:=1) rfl rfl rfl (by decide)) ?_))|refine Qf ?_)<;>refine X.seq ?_<;>(refine X.block ?_<;>((refine Qs (ι:=FB) (fun y=>[(1,.int .u64 ((y.u:Nat):Int)),(3,.bool false),(4,.bool false),(12,.pointer (some ⟨g12,0,none⟩)),(13,Zj ((y.i:Nat):Int)),(14,.int .u64 ((4:Nat):Int)),(15,.int .u64 ((16:Nat):Int)),(16,.int .u64 ((15:Nat):Int)),(10,Zl)]) (fun y=>[cells g12 (c65 y.j q) 380]) (fun y=>y.i+y.j=65∧y.u=q/16^y.j∧y.j≤9) (fun y=>y.i) (⟨65,0,q⟩) ?_ Zb Zd ?_;(focus(exact⟨rfl,(Nat.div_one q).symm,Nat.zero_le _⟩));rintro⟨i,j,u⟩ ⟨hi,hu,hj⟩;(dsimp only at *))<;>(refine X.seq ?_<;>((refine Zt ?_<;>repeat' first|refine Z.p rfl ?_|(refine Za 2 ?_;(first|refine Z.cs rfl (fun h1=>?_) (fun h1=>?_)))|refine Qf ?_)<;>(first|refine Zp ?_|refine Zq ?_))<;>(first|refine Ex.then ?_|refine N.next ?_<;>(refine X.block ?_<;>((refine Zt ?_<;>repeat' first|refine Z.p rfl ?_|(refine Za 1 ?_;(refine Z.g rfl (by omega) ?_;rw [show((i:Nat):Int)-1=((i-1:Nat):Int) from(by omega)]))|refine Qf ?_)<;>(refine Zt ?_<;>repeat' first|refine Z.p rfl ?_|(refine Za 3 ?_;(refine XL.dt rfl (fun _ _ _ _=>D.andN (a:=u) (b:=15) rfl rfl rfl ⟨show u<18446744073709551616 from(by have:=Nat.div_le_self q (16^j);omega),by decide⟩) ?_;rw [show u&&&15=u%16 from Nat.and_two_pow_sub_one_eq_mod u 4]))|(refine Za 4 ?_;(have hd:=dig36_at (u%16) (Nat.mod_lt _ (by decide));refine XL.dt rfl (fun _ _ _ _=>D.idx (l:=dig36) (u%16) rfl rfl rfl hd) ?_))|(refine Za 5 ?_;(refine XL.dt rfl (fun _ _ _ _=>D.indexArr (i-1) rfl rfl rfl (by omega)) ?_))|(refine Za 6 ?_;(rw [show i-1=64-j from(by omega),hu];refine Qj (cs':=c65 (j+1) q) (hset:=c65_set (by omega)) rfl rfl rfl rfl rfl ?_))|refine Qf ?_)<;>refine Zx ?_<;>repeat' first|refine Z.p rfl ?_|(refine Za 2 ?_;(refine XL.dt rfl (fun _ _ _ _=>D.shrN (a:=q/16^j) (b:=4) rfl rfl (by decide)) ?_;rw [show q/16^j/2^4=q/16^(j+1) from(by rw [Nat.div_div_eq_div_mul];rfl)]))|refine XL.nil ?_)<;>(first|refine N.block ?_|refine Ql ?_|refine Ex.out rfl ?_))))<;>(first|refine Ex.then ?_|((refine Qp (⟨64-j,j+1,q/16^(j+1)⟩) ?_ ?_ Zb Zd;(focus(exact⟨by dsimp only;omega,rfl,by dsimp only;have h2:16≤q/16^j:=(by omega);rcases Nat.lt_or_ge j 9 with h3|h3;omega;(obtain rfl:j=9:=(by omega);exfalso;have:q/16^9<16:=Nat.div_lt_of_lt_mul (by omega);omega)⟩));(focus(dsimp only;omega))))))<;>(first|refine N.block ?_|refine Ql ?_|refine Ex.out rfl ?_))<;>(first|refine Ex.then ?_|refine N.next ?_<;>((refine Zt ?_<;>repeat' first|refine Z.p rfl ?_|(refine Za 1 ?_;(refine Z.g rfl (by omega) ?_;rw [show((i:Nat):Int)-1=((i-1:Nat):Int) from(by omega)]))|refine Qf ?_)<;>refine Zx ?_<;>repeat' first|refine Z.p rfl ?_|(refine Za 2 ?_;(have hlt:u<16:=(by omega);have hd:=dig36_at u hlt;refine XL.dt rfl (fun _ _ _ _=>D.idx (l:=dig36) u rfl rfl rfl hd) ?_))|(refine Za 3 ?_;(refine XL.dt rfl (fun _ _ _ _=>D.indexArr (i-1) rfl rfl rfl (by omega)) ?_))|(refine Za 4 ?_;(rw [show i-1=64-j from(by omega),show hexD u=hexD (q/16^j%16) from(by rw [←hu,Nat.mod_eq_of_lt hlt])];refine Qj (cs':=c65 (j+1) q) (hset:=c65_set (by omega)) rfl rfl rfl rfl rfl ?_))|refine XL.nil ?_)))|(refine Zf ?_;(refine Zt ?_<;>repeat' first|refine Z.p rfl ?_|refine Z.cv rfl rfl ?_|refine Qf ?_)<;>refine X.seq ?_<;>(refine X.block ?_<;>((refine Qs (ι:=Nat) (fun i=>[]) (fun _=>[]) (fun i=>True) (fun i=>0) (0) ?_ Zb Zd ?_;(focus(trivial));rintro i hi)<;>(refine X.seq ?_<;>((refine Zt ?_<;>repeat' first|refine Z.p rfl ?_|refine Z.ct rfl (by omega) ?_|refine Z.cf rfl (by omega) ?_|refine Z.cs rfl (fun _=>?_) (fun _=>?_)|refine Qf ?_)<;>(first|refine Zp ?_|refine Zq ?_))<;>(first|refine Ex.then ?_|refine N.next ?_<;>(refine X.block ?_<;>((refine Zt ?_<;>repeat' first|refine Z.p rfl ?_|refine Z.g rfl (by omega) ?_|refine Z.w rfl ?_|refine Qf ?_)<;>(refine Zt ?_<;>repeat' first|refine Z.p rfl ?_|refine Z.quo rfl rfl rfl (by omega) ?_|refine Qf ?_)<;>(refine Zt ?_<;>repeat' first|refine Z.p rfl ?_|refine Z.g rfl (by omega) ?_|refine Z.w rfl ?_|fail "op index"|fail "op indexAddr"|refine Qj rfl rfl rfl rfl rfl ?_|refine Qk rfl rfl rfl rfl rfl rfl ?_|refine XL.storeP rfl rfl rfl rfl rfl rfl ?_|refine Qf ?_)<;>refine Zx ?_<;>repeat' first|refine Z.p rfl ?_|refine XL.nil ?_)<;>(first|refine N.block ?_|refine Ql ?_|refine Ex.out rfl ?_))))<;>(first|refine Ex.then ?_|((refine Qp (0) ?_ ?_ Zb Zd;(focus(trivial));(focus(first|omega|(dsimp only;omega)))))))<;>(first|refine N.block ?_|refine Ql ?_|refine Ex.out rfl ?_))<;>(first|refine Ex.then ?_|refine N.next ?_<;>((refine Zt ?_<;>repeat' first|refine Z.p rfl ?_|refine Z.g rfl (by omega) ?_|refine Z.w rfl ?_|refine Qf ?_)<;>refine Zx ?_<;>repeat' first|refine Z.p rfl ?_|fail "op index"|fail "op indexAddr"|refine Qj rfl rfl rfl rfl rfl ?_|refine Qk rfl rfl rfl rfl rfl rfl ?_|refine XL.storeP rfl rfl rfl rfl rfl rfl ?_|refine XL.nil ?_)))))<;>(first|refine Ex.then ?_|refine N.next ?_<;>(refine X.seq ?_<;>((refine Zt ?_<;>repeat' first|refine Z.p rfl ?_|refine Qf ?_)<;>(first|(refine Zu ?_;(refine Zt ?_<;>repeat' first|refine Z.p rfl ?_|refine Z.g rfl (by omega) ?_|refine Z.w rfl ?_|refine Qf ?_)<;>refine Zx ?_<;>repeat' first|refine Z.p rfl ?_|fail "op indexAddr"|refine Qj rfl rfl rfl rfl rfl ?_|refine Qk rfl rfl rfl rfl rfl rfl ?_|refine XL.storeP rfl rfl rfl rfl rfl rfl ?_|refine XL.nil ?_)|refine Zm ?_))<;>(first|refine Ex.then ?_|refine N.next ?_<;>(refine X.seq ?_<;>((refine Zt ?_<;>repeat' first|refine Z.p rfl ?_|refine Qf ?_)<;>(first|(refine Zu ?_;(refine Zt ?_<;>repeat' first|refine Z.p rfl ?_|fail "op slice"|(refine XL.append rfl rfl rfl rfl rfl rfl ?_ ?_ (fun a' c'=>?_);(focus(unfold maxLen;omega));(focus(intro _ _;infer_instance)))|refine Qf ?_)<;>(apply X.r2 Tryz.results282 (Qh rfl) (Qh rfl);(focus(exact⟨j+1,by omega,by omega,by have h3:q/16^j<16:=(by omega);have h4:=(Nat.div_lt_iff_lt_mul (show 0<16^j from Nat.pow_pos (by decide))).1 h3;rw [Nat.pow_succ,Nat.mul_comm];exact h4,rfl,rfl⟩));exact Zd))|refine Zm ?_))<;>(first|refine Ex.then ?_|refine N.next ?_<;>((refine Zt ?_<;>repeat' first|refine Z.p rfl ?_|(refine Za 1 ?_;(refine XL.dt rfl (fun _ _ _ _=>D.sliceAL (l:=64-j) rfl rfl (by omega)) ?_))|(refine Za 2 ?_;(refine XL.ld rfl (fun _ _ _ _=>D.toStr (hexN (j+1) q) rfl (by rw [hexN_len];omega) (fun w hw=>c65_rd hw (by omega))) ?_))|refine Qf ?_)<;>(apply X.r2 Tryz.results282 (Qh rfl) (Qh rfl);(focus(exact⟨j+1,by omega,by omega,by have h3:q/16^j<16:=(by omega);have h4:=(Nat.div_lt_iff_lt_mul (show 0<16^j from Nat.pow_pos (by decide))).1 h3;rw [Nat.pow_succ,Nat.mul_comm];exact h4,rfl,rfl⟩));exact Zd))))))))))))
end Go.Lx
