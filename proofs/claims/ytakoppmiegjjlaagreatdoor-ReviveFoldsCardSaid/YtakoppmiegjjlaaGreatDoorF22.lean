import Derived.Test.YtakoppmiegjjlaaGreatDoorF4
import Derived.Test.YtakoppmiegjjlaaGreatDoorF21
import Derived.Test.YtakoppmiegjjlaaGreatDoorF3
set_option linter.unusedVariables false
set_option linter.unusedSimpArgs false
set_option maxRecDepth 20000
namespace Go.Lx
open Go.Proofs
theorem encE_setn(o:List Ext)(k:Nat)(y:Ext)(n:Int)(h:o[k]?=some y):putAt (encE o) (k*4+1) [.int .i64 n]=encE (o.set k ⟨y.a,n,y.q,y.p⟩):=by
  have hk:=(List.getElem?_eq_some_iff.1 h).1
  rw [putAt_one' _ _ _ (by rw [encE_len];omega)]
  exact set_flat' encE1 4 (fun _=>rfl) 1 (by omega) (.int .i64 n) ⟨y.a,n,y.q,y.p⟩ y rfl o k h
where
  putAt_one' (xs:List Value) (k:Nat) (v:Value) (h:k<xs.length):putAt xs k [v]=xs.set k v:=by
    unfold putAt
    exact list_set_parts xs k v h
  set_flat' {α:Type} (f:α→List Value) (sz:Nat) (hf:∀ x,(f x).length=sz) (j:Nat) (hj:j<sz) (v:Value) (x y:α) (hxy:(f y).set j v=f x):∀ (l:List α) (k:Nat),l[k]?=some y→(l.flatMap f).set (k*sz+j) v=(l.set k x).flatMap f
    |[],k,h=>by cases h
    |z::l,0,h=>by
      simp at h
      subst h
      rw [Nat.zero_mul,Nat.zero_add,List.flatMap_cons,List.set_append_left _ _ (by rw [hf];exact hj),hxy,List.set_cons_zero,List.flatMap_cons]
    |z::l,k+1,h=>by
      have ih:=set_flat' f sz hf j hj v x y hxy l k (by simpa using h)
      rw [List.flatMap_cons,List.set_cons_succ,List.flatMap_cons,←ih]
      have e:(k+1)*sz+j=(f z).length+(k*sz+j):=by rw [hf,Nat.add_mul];omega
      rw [e,List.set_append_right _ _ (Nat.le_add_right _ _)]
      congr 2
      omega
def Jn (o:List Ext) (x:Ext) (o':List Ext):Prop:=(∃ y,o[o.length-1]?=some y∧Fol y x∧o'=o.set (o.length-1) ⟨y.a,y.n+x.n,y.q,y.p⟩)∨((∀ y,o[o.length-1]?=some y→ ¬Fol y x)∧o'=o++[x])
theorem join_spec(w:World)(H:Nat→Prop)(a:Option Addr)(c:Nat)(o:List Ext)(x:Ext)(hown:Sep [own 105 4 (.slice a o.length c) o.length (encE o)] w H)(ho:∀ y∈o,inE y)(hx:inE x)(hbd:o.length≤1000000):
    Spec Tryz.prog 258 #[.slice a o.length c,.agg #[Zj x.a,Zj x.n,Zj x.q,Zj x.p]] w H (fun v A=>∃ a' c' o',v= .slice a' (List.length o') c'∧Jn o x o'∧A=[own 105 4 (.slice a' o'.length c') o'.length (encE o')]):=by
  have hx':=hx
  unfold inE at hx'
  refine Spec.enter Tryz.func258 rfl Tryz.ntmps258 rfl hown ?_
  ((refine Zt ?_<;>repeat' first|refine Z.p rfl ?_|refine Qr rfl rfl rfl rfl (k:=fun g=>?_)|refine XL.box1 rfl rfl rfl rfl rfl (k:=fun g=>?_)|refine Qf ?_)<;>(refine Zt ?_<;>repeat' first|refine Z.p rfl ?_|refine Z.ln rfl rfl ?_|refine Z.lnL rfl rfl ?_|refine Z.lnS rfl rfl ?_|refine Z.g rfl (by omega) ?_|refine Z.w rfl ?_|refine Qf ?_)<;>refine X.seq ?_<;>((refine X.sd (.a 0 (.a 1 (.a 2 (.a 3 (.a 4 (.a 5 (.b 6 (.b 7 (.c 8 (.a 9 .n)))))))))) mixed (by kernel_rfl) ?_<;>repeat' first|refine XL.skipC rfl rfl rfl rfl ?_|refine Z.p rfl ?_|(refine Za 1 ?_;(first|refine XL.split0 rfl rfl rfl rfl (D.int rfl rfl rfl) (fun h1=>?_) (fun h1=>?_)))|(refine Za 5 ?_;(have hol:o.length-1<o.length:=(by omega);obtain⟨y,hy⟩:=Qt hol;have hyi:=ho y (List.mem_of_getElem? hy);have hyi':=hyi;unfold inE at hyi';refine XL.fact (fun w h=>(h.rd (a:=a)).sm (by omega)) (fun hsome=>?_);(apply XL.det0 rfl rfl rfl rfl;exact D.indexAddr (o.length-1) rfl rfl (by omega) hol hsome)))|(refine Za 6 ?_;((apply XL.det1 rfl rfl rfl rfl;exact D.loadN rfl rfl (fun w hw j u hu=>Rd.extE (hw.rd (a:=a)) hy j u hu))))|(refine Za 8 ?_;((refine XL.call rfl rfl rfl rfl (fun w hw=>follows_spec y x hyi hx w) (Zs ?_));(by_cases hf:Fol y x<;>first|rw [decide_eq_true hf]|rw [decide_eq_false hf])))|refine Z.l1 rfl rfl rfl ?_|refine Z.lN rfl rfl rfl ?_|refine Z.lP rfl rfl rfl ?_|refine Z.pk rfl rfl rfl rfl ?_|refine Qf ?_)<;>(first|(refine Zu ?_;(refine X.sd (.a 0 (.a 1 (.a 2 (.a 3 (.a 4 (.b 5 (.a 6 (.a 7 (.b 8 (.a 9 (.a 10 (.a 11 (.a 12 (.f 13 .n)))))))))))))) mixed (by kernel_rfl) ?_<;>repeat' first|refine Z.p rfl ?_|(refine Za 2 ?_;((apply XL.det0 rfl rfl rfl rfl;exact D.indexAddr (o.length-1) rfl rfl (by omega) hol hsome)))|(refine Za 5 ?_;((apply XL.det1 rfl rfl rfl rfl;exact D.load1 rfl (fun w hw=>by have:=Rd.extE (hw.rd (a:=a)) hy 1 _ rfl;simpa [el_add] using this))))|(refine Za 10 ?_;((apply XL.det0 rfl rfl rfl rfl;exact D.indexAddr (o.length-1) rfl rfl (by omega) hol hsome)))|(refine Za 13 ?_;((refine XL.storeE (encE (o.set (o.length-1) ⟨y.a,y.n+x.n,y.q,y.p⟩)) rfl rfl rfl rfl rfl (by omega) (encE_setn o (o.length-1) y (y.n+x.n) hy) ?_)))|refine Z.fa rfl rfl rfl ?_|refine Z.l1 rfl rfl rfl ?_|refine Z.lN rfl rfl rfl ?_|refine Z.lP rfl rfl rfl ?_|refine Z.g rfl (by omega) ?_|refine Z.w rfl ?_|refine Qf ?_)<;>(refine Zt ?_<;>repeat' first|refine Z.p rfl ?_|refine Qf ?_)<;>(apply X.r1 Tryz.results258 (Qh rfl);(focus(first|(exact⟨_,_,o++[x],rfl,.inr ⟨fun z hz=>by rw [hy] at hz;cases hz;exact hf,rfl⟩,rfl⟩)|(exact⟨_,_,o++[x],rfl,.inr ⟨fun z hz=>by have:=(List.getElem?_eq_some_iff.1 hz).1;omega,rfl⟩,rfl⟩)|(exact⟨a,c,o.set (o.length-1) ⟨y.a,y.n+x.n,y.q,y.p⟩,by rw [List.length_set],.inl ⟨y,hy,hf,rfl⟩,by rw [List.length_set]⟩)));exact Zd))|refine Zm ?_))<;>(first|refine Ex.then ?_|refine N.next ?_<;>((refine Zt ?_<;>repeat' first|refine Z.p rfl ?_|(refine Za 3 ?_;((refine XL.append rfl rfl rfl rfl rfl rfl ?_ ?_ (fun a' c'=>?_);(focus(skip;unfold maxLen;omega));(focus(intro _ _;infer_instance)));rw [encE_snoc o x.a x.n x.q x.p,show o.length+1=(o++[(⟨x.a,x.n,x.q,x.p⟩:Ext)]).length from(by simp)]))|refine Z.l1 rfl rfl rfl ?_|refine Z.lN rfl rfl rfl ?_|refine Z.lP rfl rfl rfl ?_|refine XL.slice1 rfl rfl rfl rfl rfl rfl (by intro g;infer_instance) (fun g_=>?_)|refine Qf ?_)<;>(apply X.r1 Tryz.results258 (Qh rfl);(focus(first|(exact⟨_,_,o++[x],rfl,.inr ⟨fun z hz=>by rw [hy] at hz;cases hz;exact hf,rfl⟩,rfl⟩)|(exact⟨_,_,o++[x],rfl,.inr ⟨fun z hz=>by have:=(List.getElem?_eq_some_iff.1 hz).1;omega,rfl⟩,rfl⟩)|(exact⟨a,c,o.set (o.length-1) ⟨y.a,y.n+x.n,y.q,y.p⟩,by rw [List.length_set],.inl ⟨y,hy,hf,rfl⟩,by rw [List.length_set]⟩)));exact Zd))))
theorem Jn.step{lo:Int}{l o o':List Ext}{i:Nat}{x:Ext}(h:Jn o x o')(hJ:JnI lo l i o)(hl:Rise lo l)(hx:l[i]?=some x):JnI lo l (i+1) o':=by
  rcases h with⟨y,hy,hf,rfl⟩|⟨hn,rfl⟩
  · exact hJ.merge hl hx hy hf
  · exact hJ.push hl hx hn
theorem joinedE_spec(w:World)(a:Option Addr)(c:Nat)(l:List Ext)(lo:Int)(hl:Rd w 4 a l.length c (encE l))(hr:Rise lo l)(hbd:l.length≤1000000):
    Spec Tryz.prog 209 #[.slice a l.length c] w (fun _=>False) (fun v A=>∃ a' c' o,v= .slice a' (List.length o) c'∧JnI lo l l.length o∧A=[own 105 4 (.slice a' o.length c') o.length (encE o)]):=by
  refine Zn Tryz.func209 Tryz.ntmps209 ?_
  refine X.mem (B:=[own 105 4 (.slice none ([]:List Ext).length 0) ([]:List Ext).length (encE [])]) (fun w h=>h.nilOwn 105 4) ?_
  ((refine Zt ?_<;>repeat' first|refine Z.p rfl ?_|refine Qf ?_)<;>(refine Zt ?_<;>repeat' first|refine Z.p rfl ?_|refine Qf ?_)<;>refine X.seq ?_<;>((refine Zt ?_<;>repeat' first|refine Z.p rfl ?_|refine Z.ln rfl rfl ?_|refine Z.lnL rfl rfl ?_|refine Z.lnS rfl rfl ?_|refine Qf ?_)<;>refine X.block ?_<;>((refine Qs (ι:=Nat×List Ext×Option Addr×Nat) (fun x=>[(3,.slice x.2.2.1 x.2.1.length x.2.2.2),(6,.slice a l.length c),(7,Zj l.length),(8,Zj x.1)]) (fun x=>[own 105 4 (.slice x.2.2.1 x.2.1.length x.2.2.2) x.2.1.length (encE x.2.1)]) (fun x=>JnI lo l x.1 x.2.1) (fun x=>l.length-x.1) ((0,[],none,0)) ?_ Zb Zd ?_;(focus(exact JnI.start));rintro⟨i,o,a',c'⟩ hJ;(dsimp only at *;have hi:=hJ.hi;have hol:=hJ.len))<;>((refine Zt ?_<;>repeat' first|(refine Za 0 ?_;(first|refine Qn rfl rfl rfl rfl (D.int rfl rfl rfl) (fun h0=>?_) (fun h0=>?_)))|refine Qf ?_)<;>refine X.seq ?_<;>((first|refine Zp ?_|refine Zq ?_))<;>(first|refine Ex.then ?_|refine N.next ?_<;>(refine X.seq ?_<;>(refine X.block ?_<;>((refine Zt ?_<;>repeat' first|(refine Za 0 ?_;(have hil:i<l.length:=(by omega);obtain⟨x,hx⟩:=Qt hil;have hxi:=(hr.at_i hx).2;(apply Qu rfl rfl rfl rfl;exact D.indexAddr i rfl rfl rfl hil (hl.sm (by omega)))))|(refine Za 1 ?_;((apply Qu rfl rfl rfl rfl;exact D.loadN rfl rfl (fun w hw j u hu=>Rd.extE (Rd.conf0 hl hw) hx j u hu))))|refine XL.alloc rfl rfl rfl (k:=fun g=>?_)|refine Qj rfl rfl rfl rfl rfl ?_|refine Qk rfl rfl rfl rfl rfl rfl ?_|refine XL.storeP rfl rfl rfl rfl rfl rfl ?_|refine Qf ?_)<;>refine Zx ?_<;>repeat' first|refine Z.p rfl ?_|(refine Za 2 ?_;((refine XL.callH [own 105 4 (.slice a' o.length c') o.length (encE o)] rfl rfl rfl rfl (fun w F hF hw=>join_spec w F a' c' o x hF (fun y hy=>(hJ.rise.mem hy).1) hxi (by omega)) ?_;rintro v B' ⟨a2,c2,o2,rfl,hj,rfl⟩;refine Qg ?_)))|refine Z.l1 rfl rfl rfl ?_|refine Z.lN rfl rfl rfl ?_|refine Z.lP rfl rfl rfl ?_|refine XL.nil ?_)<;>(first|refine N.block ?_|refine Ql ?_|refine Ex.out rfl ?_))<;>(first|refine Ex.then ?_|refine N.next ?_<;>(refine Zx ?_<;>repeat' first|refine Z.p rfl ?_|refine Z.g rfl (by omega) ?_|refine Z.w rfl ?_|refine XL.nil ?_)))))<;>(first|refine Ex.then ?_|((refine Qp ((i+1,o2,a2,c2)) ?_ ?_ Zb Zd;(focus(exact hj.step hJ hr hx));(focus(first|omega|(dsimp only;omega)))))))<;>(first|refine N.block ?_|refine Ql ?_|refine Ex.out rfl ?_))<;>(first|refine Ex.then ?_|refine N.next ?_<;>((refine Zt ?_<;>repeat' first|refine Z.p rfl ?_|refine Qf ?_)<;>(apply X.r1 Tryz.results209 (Qh rfl);(focus((obtain rfl:i=l.length:=by omega);exact⟨a',c',o,rfl,hJ,rfl⟩));exact Zd))))
end Go.Lx
namespace Go.Lx
open Go.Proofs
theorem subA_zero(a:Option Addr)(sz m:Nat):subA a sz 0 m=a:=by
  unfold subA
  split
  · rfl
  · cases a with
    |none=>rfl
    |some p=>simp [Addr.add]
theorem half(n:Nat)(h:n≤4000000):IntKind.i64.wrap ((IntKind.u64.wrap (n:Int)).fdiv (2^(min (Int.toNat 1) IntKind.u64.bits)))=((n/2:Nat):Int):=by
  have e1:IntKind.u64.wrap (n:Int)=n:=by
    have h1:(n:Int)%2^64=n:=by omega
    simp only [IntKind.wrap,IntKind.bits,IntKind.signed,h1]
    simp
  rw [e1]
  have e2:(2:Int)^(min (Int.toNat 1) IntKind.u64.bits)=2:=by decide
  rw [e2,Int.fdiv_eq_ediv_of_nonneg _ (by decide)]
  have e3:(n:Int)/2=((n/2:Nat):Int):=by omega
  rw [e3]
  exact D.wrap64_fit (by omega)
theorem rise_idx:∀ (l:List Ext) (lo:Int) (i j:Nat) (x y:Ext),Rise lo l→i<j→l[i]?=some x→l[j]?=some y→x.a+x.n≤y.a:=by
  intro l
  induction l with
  |nil=>intro lo i j x y _ _ hx;cases hx
  |cons z l ih=>
    intro lo i j x y h hij hx hy
    cases j with
    |zero=>omega
    |succ j=>
      rw [List.getElem?_cons_succ] at hy
      cases i with
      |zero=>
        rw [List.getElem?_cons_zero] at hx
        cases hx
        exact(h.2.2.mem (List.mem_of_getElem? hy)).2
      |succ i=>
        rw [List.getElem?_cons_succ] at hx
        exact ih _ i j x y h.2.2 (by omega) hx hy
theorem Rise.idx{lo:Int}{l:List Ext}{i j:Nat}{x y:Ext}(h:Rise lo l)(hij:i<j)(hx:l[i]?=some x)(hy:l[j]?=some y):x.a+x.n≤y.a:=rise_idx l lo i j x y h hij hx hy
theorem around1_spec(x:Ext)(hx:inE x)(t:Int)(ht:0≤t∧t≤65536)(w:World):Spec Tryz.prog 257 #[.agg #[Zj x.a,Zj x.n,Zj x.q,Zj x.p],Zj t] w (fun _=>False) (fun v A=>v=Zj (x.a+x.n-t-1)∧A=[]):=by
  have hx':=hx
  unfold inE at hx'
  refine Zn Tryz.func257 Tryz.ntmps257 ?_
  ((refine Zt ?_<;>repeat' first|refine Z.p rfl ?_|refine Qr rfl rfl rfl rfl (k:=fun g=>?_)|refine XL.box1 rfl rfl rfl rfl rfl (k:=fun g=>?_)|refine Qf ?_)<;>(refine Zt ?_<;>repeat' first|refine Z.p rfl ?_|(refine Za 2 ?_;((refine XL.call rfl rfl rfl rfl (fun w hw=>End_spec _ _ w) ?_;rintro v B' ⟨rfl,rfl⟩;refine Qg ?_);rw [D.wrap64_fit (by omega)]))|refine Z.fa rfl rfl rfl ?_|refine Z.l1 rfl rfl rfl ?_|refine Z.lN rfl rfl rfl ?_|refine Z.lP rfl rfl rfl ?_|refine Z.g rfl (by omega) ?_|refine Z.w rfl ?_|refine Qf ?_)<;>(apply X.r1 Tryz.results257 (Qh rfl);(focus(exact⟨rfl,rfl⟩));exact Zd))
theorem Search_spec(w:World)(a:Option Addr)(c:Nat)(l:List Ext)(lo t:Int)(ht:0≤t∧t≤65536)(hl:Rd w 4 a l.length c (encE l))(hr:Rise lo l)(hbd:l.length≤1000000):
    Spec Tryz.prog 256 #[.slice a l.length c,Zj t,.func (.func 257) #[] #[]] w (fun _=>False) (fun v A=>∃ (k:Nat) (b:Bool),v= .tuple #[Zj k,.bool b]∧k≤l.length∧(∀ j x,j<k→l[j]?=some x→x.a+x.n≤t)∧(∀ j x,k≤j→l[j]?=some x→t<x.a+x.n)∧A=[]):=by
  refine Zn Tryz.func256 Tryz.ntmps256 ?_
  ((refine Zt ?_<;>repeat' first|refine Z.p rfl ?_|refine Qf ?_)<;>(refine Zt ?_<;>repeat' first|refine Z.p rfl ?_|refine Z.ln rfl rfl ?_|refine Z.lnL rfl rfl ?_|refine Z.lnS rfl rfl ?_|refine Qf ?_)<;>(refine Zt ?_<;>repeat' first|refine Z.p rfl ?_|refine Qf ?_)<;>refine X.seq ?_<;>(refine X.block ?_<;>((refine Qs (ι:=Nat×Nat) (fun x=>[(0,.slice a l.length c),(1,Zj t),(2,.func (.func 257) #[] #[]),(8,Zj l.length),(9,Zj x.1),(10,Zj x.2)]) (fun _=>[]) (fun x=>x.1≤x.2∧x.2≤l.length∧(∀ j y,j<x.1→l[j]?=some y→y.a+y.n≤t)∧(∀ j y,x.2≤j→l[j]?=some y→t<y.a+y.n)) (fun x=>x.2-x.1) ((0,l.length)) ?_ Zb Zd ?_;(focus(exact⟨Nat.zero_le _,Nat.le_refl _,fun j y hj=>absurd hj (Nat.not_lt_zero j),fun j y hj hy=>by have:=(List.getElem?_eq_some_iff.1 hy).1;dsimp only at hj;omega⟩));rintro⟨i,j⟩ ⟨h1,h2,h3,h4⟩;(dsimp only at *))<;>(refine X.seq ?_<;>((refine Zt ?_<;>repeat' first|refine Z.p rfl ?_|(refine Za 2 ?_;(first|refine Qn rfl rfl rfl rfl (D.int rfl rfl rfl) (fun h0=>?_) (fun h0=>?_)))|refine Qf ?_)<;>(first|refine Zp ?_|refine Zq ?_))<;>(first|refine Ex.then ?_|refine N.next ?_<;>(refine X.block ?_<;>((refine Zt ?_<;>repeat' first|refine Z.p rfl ?_|(refine Za 4 ?_;((apply Qm rfl rfl rfl rfl;exact D.shr rfl rfl (by decide))))|(refine Za 5 ?_;((apply Qm rfl rfl rfl rfl;exact D.conv rfl);rw [show((i:Int)+(j:Int))=((i+j:Nat):Int) from(by omega),half (i+j) (by omega)];obtain⟨m,hm⟩:∃ m,(i+j)/2=m:=(⟨_,rfl⟩);rw [hm];have hmi:i≤m∧m<j:=(by omega)))|refine Z.g rfl (by omega) ?_|refine Z.w rfl ?_|refine Z.cv rfl rfl ?_|refine Qf ?_)<;>(refine Zt ?_<;>repeat' first|refine Z.p rfl ?_|(refine Za 3 ?_;(have hml:m<l.length:=(by omega);obtain⟨y,hy⟩:=Qt hml;have hyi:=(hr.mem (List.mem_of_getElem? hy)).1;have hyi':=hyi;unfold inE at hyi';(apply Qm rfl rfl rfl rfl;exact D.indexAddr m rfl rfl rfl hml (hl.sm (by omega)))))|(refine Za 4 ?_;((apply Qu rfl rfl rfl rfl;exact D.loadN rfl rfl (fun w hw j u hu=>Rd.extE (Rd.conf0 hl hw) hy j u hu))))|(refine Za 6 ?_;((refine XL.callV (fs:=[]) (cps:=[]) rfl rfl rfl rfl rfl (fun w hw=>around1_spec y hyi t ht w) (Zs ?_))))|(refine Za 7 ?_;(first|refine Qn rfl rfl rfl rfl (D.int rfl rfl rfl) (fun h5=>?_) (fun h5=>?_)))|refine Qf ?_)<;>(first|(refine Zu ?_;refine Zx ?_<;>repeat' first|refine Z.p rfl ?_|refine Z.g rfl (by omega) ?_|refine Z.w rfl ?_|refine XL.nil ?_)|(refine Zf ?_;refine Zx ?_<;>repeat' first|refine Z.p rfl ?_|refine XL.nil ?_)))<;>(first|refine N.block ?_|refine Ql ?_|refine Ex.out rfl ?_))))<;>(first|refine Ex.then ?_|(first|(refine Qp ((m+1,j)) ?_ ?_ Zb Zd;(focus(exact⟨by dsimp only;omega,h2,fun k z hk hz=>by dsimp only at hk;by_cases e:k=m;subst e;rw [hy] at hz;cases hz;omega;have:=hr.idx (by omega:k<m) hz hy;omega,h4⟩));(focus(first|omega|(dsimp only;omega))))|(refine Qp ((i,m)) ?_ ?_ Zb Zd;(focus(exact⟨hmi.1,by dsimp only;omega,h3,fun k z hk hz=>by dsimp only at hk;by_cases e:k=m;subst e;rw [hy] at hz;cases hz;omega;have:=hr.idx (by omega:m<k) hy hz;have hzi:=(hr.mem (List.mem_of_getElem? hz)).1;unfold inE at hzi;omega⟩));(focus(first|omega|(dsimp only;omega)))))))<;>(first|refine N.block ?_|refine Ql ?_|refine Ex.out rfl ?_))<;>(first|refine Ex.then ?_|refine N.next ?_<;>((refine Zt ?_<;>repeat' first|refine Z.p rfl ?_|(refine Za 3 ?_;(first|refine Qn rfl rfl rfl rfl (D.int rfl rfl rfl) (fun h6=>?_) (fun h6=>?_)))|(refine Za 8 ?_;(have hil:i<l.length:=(by omega);obtain⟨y,hy⟩:=Qt hil;have hyi:=(hr.mem (List.mem_of_getElem? hy)).1;(apply Qm rfl rfl rfl rfl;exact D.indexAddr i rfl rfl rfl hil (hl.sm (by omega)))))|(refine Za 9 ?_;((apply Qu rfl rfl rfl rfl;exact D.loadN rfl rfl (fun w hw j u hu=>Rd.extE (Rd.conf0 hl hw) hy j u hu))))|(refine Za 11 ?_;((refine XL.callV (fs:=[]) (cps:=[]) rfl rfl rfl rfl rfl (fun w hw=>around1_spec y hyi t ht w) (Zs ?_))))|refine Z.ct rfl (by omega) ?_|refine Z.cf rfl (by omega) ?_|refine Z.cs rfl (fun _=>?_) (fun _=>?_)|refine Z.pk rfl rfl rfl rfl ?_|refine Qf ?_)<;>(apply X.r2 Tryz.results256 (Qh rfl) (Qh rfl);(focus(exact⟨i,_,rfl,by omega,h3,fun k z hk hz=>h4 k z (by omega) hz,rfl⟩));exact Zd))))
theorem Grow_spec(w:World)(n:Nat)(hn:n≤1000000):Spec Tryz.prog 259 #[Zl,Zj n] w (fun _=>False) (fun v A=>∃ a' c',v= .slice a' 0 c'∧A=[own 105 4 (.slice a' 0 c') 0 []]):=by
  refine Zn Tryz.func259 Tryz.ntmps259 ?_
  refine X.mem (B:=[own 105 4 (Zl) 0 []]) (fun w h=>h.nilOwn 105 4) ?_
  ((refine Zt ?_<;>repeat' first|refine Z.p rfl ?_|refine Qf ?_)<;>refine X.seq ?_<;>((refine Zt ?_<;>repeat' first|refine Z.p rfl ?_|refine Z.ct rfl (by omega) ?_|refine Z.cf rfl (by omega) ?_|refine Z.cs rfl (fun _=>?_) (fun _=>?_)|refine Qf ?_)<;>(first|(refine Zu ?_;refine Zx ?_<;>repeat' first|fail "op makeInterface"|fail "op panic"|refine XL.nil ?_)|refine Zm ?_))<;>(first|refine Ex.then ?_|refine N.next ?_<;>(refine X.seq ?_<;>((refine Zt ?_<;>repeat' first|refine Z.p rfl ?_|(refine Za 6 ?_;((apply Qm rfl rfl rfl rfl;exact D.sub64 rfl rfl (by omega));rw [show(n:Int)-(((0:Nat):Int)-((0:Nat):Int))=(n:Int) from(by omega)]))|refine Z.cap rfl rfl ?_|refine Z.ln rfl rfl ?_|refine Z.lnL rfl rfl ?_|refine Z.lnS rfl rfl ?_|refine Z.g rfl (by omega) ?_|refine Z.w rfl ?_|refine Qf ?_)<;>(refine Zt ?_<;>repeat' first|refine Z.p rfl ?_|refine Z.ct rfl (by omega) ?_|refine Z.cf rfl (by omega) ?_|refine Z.cs rfl (fun _=>?_) (fun _=>?_)|refine Qf ?_)<;>(first|(refine Zu ?_;refine Zx ?_<;>repeat' first|refine Z.p rfl ?_|(refine Za 3 ?_;((apply Qm rfl rfl rfl rfl;exact D.sliceH (h:=0) rfl rfl (by omega));rw [subA_zero]))|(refine Za 5 ?_;((refine XL.appendZ rfl rfl rfl rfl rfl (by omega) (by unfold maxLen;omega) (fun _ _=>by infer_instance) (fun g c' hc'=>?_))))|(refine Za 8 ?_;((apply Qm rfl rfl rfl rfl;exact D.sliceH (h:=0) rfl rfl (by omega));rw [subA_zero]))|refine Z.cap rfl rfl ?_|refine Z.ln rfl rfl ?_|refine Z.lnL rfl rfl ?_|refine Z.lnS rfl rfl ?_|refine XL.nil ?_)|refine Zm ?_))<;>(first|refine Ex.then ?_|refine N.next ?_<;>((refine Zt ?_<;>repeat' first|refine Z.p rfl ?_|refine Qf ?_)<;>(apply X.r1 Tryz.results259 (Qh rfl);(focus(exact⟨_,_,rfl,rfl⟩));exact Zd))))))
end Go.Lx
namespace Go.Lx
open Go.Proofs
structure Sle where
  a:Option Addr
  c:Nat
  l:List Ext
  deriving Inhabited
def valL (s:Sle):Value:= .slice s.a s.l.length s.c
def encL1 (s:Sle):List Value:=[valL s]
def sumL:List Sle→Nat
  |[]=>0
  |s::l=>s.l.length+sumL l
theorem sumL_take:∀ (l:List Sle) (i:Nat) (s:Sle),l[i]?=some s→sumL (l.take (i+1))=sumL (l.take i)+s.l.length∧sumL (l.take i)+s.l.length≤sumL l
  |s::l,0,x,h=>by
    simp at h
    subst h
    simp [sumL]
  |s::l,i+1,x,h=>by
    have:=sumL_take l i x (by simpa using h)
    simp only [List.take_succ_cons,sumL]
    omega
theorem flat_len_sum:∀ (l:List Sle),(l.flatMap (·.l)).length=sumL l
  |[]=>rfl
  |s::l=>by simp only [List.flatMap_cons,List.length_append,sumL,flat_len_sum l]
theorem Concat_spec(w:World)(a:Option Addr)(c:Nat)(ss:List Sle)(hp:Rd w 1 a ss.length c (ss.flatMap encL1))(hs:∀ s∈ss,Rd w 4 s.a s.l.length s.c (encE s.l))(hk:ss.length≤1000)(hbd:sumL ss≤1000000):
    Spec Tryz.prog 210 #[.slice a ss.length c] w (fun _=>False) (fun v A=>∃ a' c',v= .slice a' (ss.flatMap (·.l)).length c'∧A=[own 105 4 (.slice a' (ss.flatMap (·.l)).length c') (ss.flatMap (·.l)).length (encE (ss.flatMap (·.l)))]):=by
  refine Zn Tryz.func210 Tryz.ntmps210 ?_
  ((refine Zt ?_<;>repeat' first|refine Z.p rfl ?_|refine Qf ?_)<;>(refine Zt ?_<;>repeat' first|refine Z.p rfl ?_|refine Qf ?_)<;>refine X.seq ?_<;>((refine Zt ?_<;>repeat' first|refine Z.p rfl ?_|refine Z.ln rfl rfl ?_|refine Z.lnL rfl rfl ?_|refine Z.lnS rfl rfl ?_|refine Qf ?_)<;>refine X.block ?_<;>((refine Qs (ι:=Nat) (fun i=>[(0,.slice a ss.length c),(3,Zj (sumL (ss.take i):Nat)),(9,.slice a ss.length c),(10,Zj ss.length),(11,Zj i)]) (fun _=>[]) (fun i=>i≤ss.length) (fun i=>ss.length-i) (0) ?_ Zb Zd ?_;(focus(exact Nat.zero_le _));rintro i hi)<;>((refine Zt ?_<;>repeat' first|(refine Za 0 ?_;(first|refine Qn rfl rfl rfl rfl (D.int rfl rfl rfl) (fun h0=>?_) (fun h0=>?_)))|refine Qf ?_)<;>refine X.seq ?_<;>((first|refine Zp ?_|refine Zq ?_))<;>(first|refine Ex.then ?_|refine N.next ?_<;>(refine X.seq ?_<;>(refine X.block ?_<;>((refine Zt ?_<;>repeat' first|refine Z.p rfl ?_|(refine Za 0 ?_;(have hil:i<ss.length:=(by omega);obtain⟨s,hs'⟩:=Qt hil;have hsum:=sumL_take ss i s hs';(apply Qu rfl rfl rfl rfl;exact D.indexAddr i rfl rfl rfl hil (hp.sm (by omega)))))|(refine Za 1 ?_;((apply Qu rfl rfl rfl rfl;exact D.load1 (v:=valL s) rfl (fun w hw=>by have:=Rd.elem (f:=encL1) (hp.conf0 hw) (fun _=>rfl) hs' 0 _ rfl;simpa [el_add] using this))))|refine Qf ?_)<;>(refine Zt ?_<;>repeat' first|refine Z.p rfl ?_|(refine Za 2 ?_;((apply Qm rfl rfl rfl rfl;exact D.len (ad:=s.a) (n:=s.l.length) (c:=s.c) rfl)))|(refine Za 3 ?_;((apply Qm rfl rfl rfl rfl;exact D.add64 rfl rfl (by omega));rw [show((sumL (ss.take i):Nat):Int)+(s.l.length:Int)=((sumL (ss.take (i+1)):Nat):Int) from(by omega)]))|refine Qf ?_)<;>(refine Zt ?_<;>repeat' first|refine Z.p rfl ?_|refine Z.ct rfl (by omega) ?_|refine Z.cf rfl (by omega) ?_|refine Z.cs rfl (fun _=>?_) (fun _=>?_)|refine Qf ?_)<;>(first|(refine Zu ?_;refine Zx ?_<;>repeat' first|fail "op makeInterface"|fail "op panic"|refine XL.nil ?_)|refine Zm ?_))<;>(first|refine N.block ?_|refine Ql ?_|refine Ex.out rfl ?_))<;>(first|refine Ex.then ?_|refine N.next ?_<;>(refine Zx ?_<;>repeat' first|refine Z.p rfl ?_|refine Z.g rfl (by omega) ?_|refine Z.w rfl ?_|refine XL.nil ?_)))))<;>(first|refine Ex.then ?_|((refine Qp ((i+1)) ?_ ?_ Zb Zd;(focus(omega));(focus(first|omega|(dsimp only;omega)))))))<;>(first|refine N.block ?_|refine Ql ?_|refine Ex.out rfl ?_))<;>(first|refine Ex.then ?_|refine N.next ?_<;>((refine Zt ?_<;>repeat' first|refine Z.p rfl ?_|(refine Za 1 ?_;(have hsl:sumL (ss.take i)≤1000000:=(by rw [List.take_of_length_le (by omega)];exact hbd);(refine XL.call rfl rfl rfl rfl (fun w hw=>Grow_spec w _ hsl) ?_;rintro v B' ⟨a1,c1,rfl,rfl⟩;refine Qg ?_);refine XL.mem (B:=[own 105 4 (.slice a1 ((ss.take 0).flatMap (·.l)).length c1) ((ss.take 0).flatMap (·.l)).length (encE ((ss.take 0).flatMap (·.l)))]) (fun w h=>h) ?_))|refine Qf ?_)<;>refine X.seq ?_<;>((refine Zt ?_<;>repeat' first|refine Z.p rfl ?_|refine Z.ln rfl rfl ?_|refine Z.lnL rfl rfl ?_|refine Z.lnS rfl rfl ?_|refine Qf ?_)<;>refine X.block ?_<;>((refine Qs (ι:=Nat×Option Addr×Nat) (fun x=>[(6,.slice x.2.1 ((ss.take x.1).flatMap (·.l)).length x.2.2),(25,.slice a ss.length c),(26,Zj ss.length),(27,Zj x.1)]) (fun x=>[own 105 4 (.slice x.2.1 ((ss.take x.1).flatMap (·.l)).length x.2.2) ((ss.take x.1).flatMap (·.l)).length (encE ((ss.take x.1).flatMap (·.l)))]) (fun x=>x.1≤ss.length) (fun x=>ss.length-x.1) ((0,a1,c1)) ?_ Zb Zd ?_;(focus(exact Nat.zero_le _));rintro⟨j,a2,c2⟩ hj;(dsimp only at *))<;>((refine Zt ?_<;>repeat' first|(refine Za 0 ?_;(first|refine Qn rfl rfl rfl rfl (D.int rfl rfl rfl) (fun h3=>?_) (fun h3=>?_)))|refine Qf ?_)<;>refine X.seq ?_<;>((first|refine Zp ?_|refine Zq ?_))<;>(first|refine Ex.then ?_|refine N.next ?_<;>(refine X.seq ?_<;>(refine X.block ?_<;>((refine Zt ?_<;>repeat' first|refine Z.p rfl ?_|(refine Za 0 ?_;(have hjl:j<ss.length:=(by omega);obtain⟨s,hs'⟩:=Qt hjl;have hsum:=sumL_take ss j s hs';have hfl:=flat_len_sum (ss.take j);(apply Qu rfl rfl rfl rfl;exact D.indexAddr j rfl rfl rfl hjl (hp.sm (by omega)))))|(refine Za 1 ?_;((apply Qu rfl rfl rfl rfl;exact D.load1 (v:=valL s) rfl (fun w hw=>by have:=Rd.elem (f:=encL1) (hp.conf0 hw) (fun _=>rfl) hs' 0 _ rfl;simpa [el_add] using this))))|refine Qf ?_)<;>refine Zx ?_<;>repeat' first|refine Z.p rfl ?_|(refine Za 2 ?_;((refine XL.appendR (a2:=s.a) (m:=s.l.length) (c2:=s.c) (news:=encE s.l) rfl rfl rfl rfl rfl (fun w hw=>(hs s (List.mem_of_getElem? hs')).conf0 hw) (encE_one s.l) (by unfold maxLen;omega) (fun _ _=>by infer_instance) (fun a3 c3=>?_));rw [show encE ((ss.take j).flatMap (·.l))++encE s.l=encE ((ss.take (j+1)).flatMap (·.l)) from(by rw [take_succ_snoc hs'];simp [encE]),show((ss.take j).flatMap (·.l)).length+s.l.length=((ss.take (j+1)).flatMap (·.l)).length from(by rw [take_succ_snoc hs'];simp)]))|refine XL.nil ?_)<;>(first|refine N.block ?_|refine Ql ?_|refine Ex.out rfl ?_))<;>(first|refine Ex.then ?_|refine N.next ?_<;>(refine Zx ?_<;>repeat' first|refine Z.p rfl ?_|refine Z.g rfl (by omega) ?_|refine Z.w rfl ?_|refine XL.nil ?_)))))<;>(first|refine Ex.then ?_|((refine Qp ((j+1,a3,c3)) ?_ ?_ Zb Zd;(focus((dsimp only;omega)));(focus(first|omega|(dsimp only;omega)))))))<;>(first|refine N.block ?_|refine Ql ?_|refine Ex.out rfl ?_))<;>(first|refine Ex.then ?_|refine N.next ?_<;>((refine Zt ?_<;>repeat' first|(refine Za 0 ?_;(have hje:ss.take j=ss:=(List.take_of_length_le (by omega));(apply Qm rfl rfl rfl rfl;exact D.move rfl);rw [hje]))|refine Z.p rfl ?_|refine Qf ?_)<;>(apply X.r1 Tryz.results210 (Qh rfl);(focus(exact⟨a2,c2,rfl,rfl⟩));exact Zd))))))
end Go.Lx
