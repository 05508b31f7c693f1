/-
  AL, part 45: a call that takes owned blocks and hands back further ones.
-/
import Derived.Test.YtnjoncgnjdkaoaaGreatDoorKWkI
set_option linter.unusedVariables false
set_option linter.unusedSimpArgs false
namespace Go.Proofs.YtnjoncgnjdkaoaaGreatDoor
open Go Go.AL
theorem eF.frame {P:Program}{f:Nat}{args:List V}{M Mc:Mem}{res:V}(hc:∀ id blk,Mc id=some blk->M id=some blk)(h:eF P f args Mc res Mc):eF P f args M res M :=
 ⟨h.1,λF w vals hS hv=>(h.2 F w vals (BQ hS hc) hv).mono λe w' ⟨v,F',he,ha,hs⟩=>by
  have k:=After.over hS hc (λ_ h=>h) ha;rw[over_self hc] at k;exact⟨v,F',he,k,hs⟩⟩
structure Au.Fit (a:Au) (s:Nat):Prop where
 ok:a.Ok
 sz:a.Sz 134217728 20
 sym:a.sym=s
 s1:a.sym<=32
 st:a.st<=64
theorem Om {x y:Rat}(hx:sz x<=68719476736)(hy:sz y<=68719476736):aj P F.mG [vQ x,vQ y] (vQ (x-y)):=by
 have h:=mG (x:=fP x) (y:=fP y) (jo (by omega)) (jo (by omega))
 rw[kz,kz] at h;exact h
theorem Oo {x y:Rat}(hx:sz x<=68719476736)(hy:sz y<=68719476736)(h0:y≠0):aj P F.oK [vQ x,vQ y] (.jE [vQ (x / y),.d (dI 0)]):=by
 have h:=oK (x:=fP x) (y:=fP y) (jo (by omega)) (jo (by omega))
 rw[kz,kz,if_neg h0,if_neg h0] at h;exact h
theorem FP {q:Rat}(hz:sz q<=68719476745):aj P F.xY [vQ q] (vQ (-q)):=by
 have sn:=jT q;have sd:=jU q;refine aj.intro fn.xY (by rfl) (by rfl) (aA (by rfl)) λE hE=>(AW.sg hE rfl (gW rfl rfl λb1=>(al z.Rat rfl λb2=>(OL.nil (AW.sg hE rfl (aN ag.Rat rfl rfl (vs:=[_,_,_]) rfl (aA rfl) (bF rfl vL (gJ (jo (q:=q) (by omega))) ?_)))))))
 rw[kz];refine bF rfl vL (Aq) (bF rfl vL (qY (s:=!decide (q.num<0)) (n:=q.num.natAbs) (d:=q.den) (by omega) (by omega) q.den_nz) ?_)
 rw[<- ae9,lT];exact fG sz.Rat rfl rfl rfl rfl rfl (aA rfl) (cells2:=[_,_,_]) rfl (OL.nil (AW.ret (aO.r ⟨_,.dL rfl rfl ag.Rat (aA rfl) .nil,.ag (.cons (.le vR) (.cons (.le vR) (.cons (.le vR) .nil)))⟩)))
end Go.Proofs.YtnjoncgnjdkaoaaGreatDoor
namespace Go.AL
open Go Go.BigFrame
def sN (w:List Rat)(g:Nat->Rat)(i:Nat):List Rat:=(List.range w.length).map λj=>if j<i then g j else w.getD j 0
section
variable {w:List Rat}{g:Nat->Rat}{i:Nat}
theorem BD:(sN w g i).length=w.length:=by simp[sN]
theorem Gj (w:List Rat):((List.range w.length).map λj=>w.getD j 0)=w:=by
 refine List.ext_getElem (by simp) λj h1 h2=>?_
 simp only[List.getElem_map,List.getElem_range];rw[gI,kL h2];rfl
theorem BF:sN w g 0=w:=by
 have e:sN w g 0=(List.range w.length).map λj=>w.getD j 0:=List.map_congr_left λj _=>if_neg (by omega)
 rw[e,Gj]
theorem Ei (hi:i<w.length):(sN w g i).getD i 0=w.getD i 0:=by
 unfold sN;rw[aK _ _ hi,if_neg (Nat.lt_irrefl _)]
theorem Ej (hi:i<w.length):(sN w g i).set i (g i)=sN w g (i+1):=by
 refine List.ext_getElem (by rw[List.length_set,BD,BD]) λj h1 h2=>?_
 rw[List.getElem_set];by_cases hj:i=j
 .subst hj;rw[if_pos rfl];simp only[sN,List.getElem_map,List.getElem_range];rw[if_pos (by omega)]
 .rw[if_neg hj];simp only[sN,List.getElem_map,List.getElem_range];by_cases h:j<i
  .rw[if_pos h,if_pos (by omega)]
  .rw[if_neg h,if_neg (by omega)]
theorem Em (h:∀ j,i<=j->j<w.length->g j=w.getD j 0):sN w g i=(List.range w.length).map g:=by
 refine List.map_congr_left λj hj=>?_
 split
 .rfl
 .exact (h j (by omega) (List.mem_range.1 hj)).symm
end
section
variable {r:bJ}{w t:List Rat}{rs:List bJ}{k n:Nat}
theorem PE:∀ (a:List bJ) (w:List Rat),aQ (a++[r]) w=iQ (aQ a w) r
 | [],_=>rfl
 | x::a,w=>by rw[List.cons_append,aQ,aQ,PE a]
theorem PI:∀ (a:List bJ) (w t:List Rat),tX (a++[r]) w t=F9 (tX a w t) (ou (aQ a w) r) r.c
 | [],_,_=>rfl
 | x::a,w,t=>by rw[List.cons_append,tX,tX,aQ,PI a]
theorem Gl (hk:k<rs.length):rs.take (k+1)=rs.take k++[rs.getD k default]:=by
 rw[List.take_succ_eq_append_getElem hk,gI,kL hk];rfl
theorem BG (hk:k<rs.length):aQ (rs.take (k+1)) w=iQ (aQ (rs.take k) w) (rs.getD k default):=by rw[Gl hk,PE]
theorem PK (hk:k<rs.length):tX (rs.take (k+1)) w t=F9 (tX (rs.take k) w t) (ou (aQ (rs.take k) w) (rs.getD k default)) (rs.getD k default).c:=by rw[Gl hk,PI]
theorem Zl (t c:List Rat):F9 t 0 c=t:=by
 unfold F9;have e:(λi=>t.getD i 0+0*c.getD i 0)=λi=>t.getD i 0:=by funext i;rw[Rat.zero_mul,Rat.add_zero]
 rw[e,Gj]
theorem rq (hk:k<rs.length):rs.getD k default ∈ rs:=getD_mem hk default
theorem PL (hk:k<rs.length):rs[k]? = some (rs.getD k default):=by
 rw[gI,kL hk];rfl
theorem JI {a:Nat}(h:a<=5):4 ^ a*(16777215+1)<=17179869184:=by
 have:=Nat.pow_le_pow_right (n:=4) (by decide) h
 have:=Nat.mul_le_mul_right (16777215+1) this;omega
theorem Ko.bounds (z:Ko 16777215 rs)(hl:rs.length<=6)(hk:k<rs.length)(zv:∀ i,sz (w.getD i 0)<=16777215) :
  (∀ i,sz ((aQ (rs.take k) w).getD i 0)<=17179869183)/\(∀ i,sz ((Go.AL.tX (rs.take k) w (List.replicate n 0)).getD i 0)<=17179869183)/\(∀ i,sz ((rs.getD k default).v.getD i 0)<=17179869183)/\∀ i,sz ((rs.getD k default).c.getD i 0)<=17179869183:=by
 have hb:=JI (show k<=5 by omega)
 have ht:(rs.take k).length=k:=by rw[List.length_take];omega
 have h1:=λi=>(z.take k).red zv i;have h2:=λi=>(z.take k).tX (by decide) zv n i
 rw[ht] at h1 h2;have h3:=z k _ (PL hk);refine⟨λi=>?_,λi=>?_,λi=>?_,λi=>?_⟩
 .have:=h1 i;omega
 .have:=h2 i;omega
 .have:=h3.1 i;omega
 .have:=h3.2 i;omega
theorem Ko.last (z:Ko 16777215 rs)(hl:rs.length<=6)(zv:∀ i,sz (w.getD i 0)<=16777215):(∀ i,sz ((aQ rs w).getD i 0)<=68719476735)/\∀ i,sz ((bZ rs w).getD i 0)<=68719476735:=by
 have h4:4 ^ rs.length*(16777215+1)<=68719476736:=by
  have:=Nat.pow_le_pow_right (n:=4) (by decide) hl
  have:=Nat.mul_le_mul_right (16777215+1) this;omega
 have h1:=λi=>z.red zv i;have h2:=λi=>z.tX (by decide) zv rs.length i
 refine⟨λi=>?_,λi=>?_⟩
 .have:=h1 i;omega
 .have:=h2 i;unfold bZ;omega
theorem X4 {i:Nat}(hi:i<rs.length):(TQ rs w).getD i 0 = -((bZ rs w).getD i 0):=by
 have hl:=vX rs w;unfold TQ;rw[gI,List.getElem?_append_left (by rw[dD,hl];exact hi),List.getElem?_map,gI,kL (by rw[hl];exact hi)];rfl
theorem Uo:(TQ rs w).getD rs.length 0=1:=by
 have hl:=vX rs w;unfold TQ;rw[gI,List.getElem?_append_right (by rw[dD,hl];exact Nat.le_refl _),dD,hl,Nat.sub_self];rfl
end
end Go.AL
namespace Go.Proofs.YtnjoncgnjdkaoaaGreatDoor
open Go Go.AL
structure NZ where
 b1:Nat
 c1:Nat
 b2:Nat
 c2:Nat
 b3:Nat
 c3:Nat
instance:Inhabited NZ:=⟨⟨0,0,0,0,0,0⟩⟩
abbrev Vo (B:NZ)(rs:List bJ):iF:=.row B.b2 B.c2 T.bT 1 (rs.map λr=>iG r.c)
abbrev rowP (B:NZ)(rs:List bJ):iF:=.row B.b3 B.c3 T.int 1 (rs.map λr=>dI r.p)
theorem Wv {w:List Rat}{r:bJ}:ou w r=w.getD r.p 0 / r.v.getD r.p 0:=rfl
end Go.Proofs.YtnjoncgnjdkaoaaGreatDoor
namespace Go.AL
open Go Go.BigFrame
section
variable {P:Program}{E:Env}{K:S->Prop}{s:S}{ty:Nat}{pos:String}{after:Array Edge}
theorem RO.all {M Mk:Mem}{id b n c e sz:Nat}{es:List D}{d:D}(hM:M id=some (.row b c e sz es))(hk:Mk id=Option.none)(hn:n=es.length)(hd:d=.sl es):RO M Mk (.bH id b n c) (.d d):=by
 subst hn hd;have h:=RO.bH (M:=M) (Mk:=Mk) hM hk (Nat.le_refl es.length)
 rwa [List.take_length] at h
end
theorem aj.read {P:Program}{f id b c e sz:Nat}{es:List D}{args qm:List V}{x:Value}(h:aj P f args (.d (.sc x)))(ha:fH (qm.map (V.Z8 id b c es)) args) :
  eF P f qm (mem1 id (.row b c e sz es)) (.d (.sc x)) (mem1 id (.row b c e sz es)) :=
 ⟨h.1,λF w vals hS hv=>by
  obtain⟨F',h1,h2,h3,h4⟩:=yF hS (EI id (.row b c e sz es));have hv':kX F' vals args:=qg ⟨by rw[hv.1,dD],λi y u hy hu=>by
   rw[List.getElem?_map] at hy;cases hq:qm[i]? with
   | none=>rw[hq] at hy;cases hy
   | some z=>rw[hq] at hy;cases hy;exact V.QG h1 h4 (hv.2 i z u hq hu)⟩ ha
  refine (h.2 F' w vals h2.uf hv').mono λe2 w' ⟨v,F'',he,hx,hr⟩=>⟨v,F,he,⟨hx.grow.mono λi k=>k.elim,Hp.le.refl _,⟨λk o hk=>hx.uf k o (hx.le k o (h1 k o hk)),λj blk hm=>?_,hS.apart,hS.inj⟩,λk p q=>absurd p q,λk k2=>.inr k2⟩,?_⟩
  .refine (hS.own j blk hm).keep (Hp.le.refl _) λk ho=>hx.grow.block k ((hS.own j blk hm).lt ho) λq=>q
  .cases hr with
   | d hd ho=>cases hd with
    | sc hs=>exact .d (.sc hs) ho⟩
section
variable {P:Program}{E:Env}
theorem SG.jy {ops:Array Oper}{o:Oper}{K:S->Prop}{s:S}(h:OL P 0 ops K [o] s):SG P E ops o K s:=.inl h
theorem SG.Ll {ops:Array Oper}{dst:Option Nat}{op:Op}{ty:TypeId}{pos:String}{after:Array Edge}{K:S->Prop}{s:S}(h:SO P E ⟨dst,op,ty,pos,after,none⟩ K s):SG P E ops ⟨dst,op,ty,pos,after,none⟩ K s:=.inr ⟨rfl,h⟩
def OTK (P:Program)(E:Env)(ops:Array Oper)(K:S->Prop):Nat->Array Bool->S->Prop
 | 0,listed,s=>Region.ready .any ops listed=[]/\K s
 | n+1,listed,s=>Region.ready .any ops listed≠[]/\∀ i,i ∈ Region.ready .any ops listed->∃ o,ops[i]? = some o/\SG P E ops o (OTK P E ops K n (listed.setIfInBounds i true)) s
def aB0 (P:Program)(E:Env)(ops:Array Oper)(K:S->Prop)(n:Nat)(listed:Array Bool)(s:S):List Nat->List Oper->Prop
 | [],[]=>True
 | i::l,o::os=>SG P E ops o (OTK P E ops K n (listed.setIfInBounds i true)) s/\aB0 P E ops K n listed s l os
 | _,_=>False
theorem aB0.get {ops:Array Oper}{K:S->Prop}{n:Nat}{listed:Array Bool}{s:S}:∀ (l:List Nat) (os:List Oper),l.map (λi=>ops[i]?)=os.map some->aB0 P E ops K n listed s l os->∀ i,i ∈ l->∃ o,ops[i]? = some o/\SG P E ops o (OTK P E ops K n (listed.setIfInBounds i true)) s
 | [],_,_,_,i,hi=>by simp at hi
 | j::l,[],h,_,_,_=>by simp at h
 | j::l,o::os,h,ht,i,hi=>by
  simp only[List.map_cons,List.cons.injEq] at h;rcases List.mem_cons.1 hi with rfl|hi
  .exact⟨o,h.1,ht.1⟩
  .exact aB0.get l os h.2 ht.2 i hi
end
def Mem.PN (M Mc N:Mem):Mem:=λid=>if (N id).isSome then N id else if (Mc id).isSome then Option.none else M id
section
variable {P:Program}{E:Env}{K:S->Prop}{s:S}{ty:Nat}{pos:String}{after:Array Edge}
theorem After.PN {F F' : Hp} {w w' : World} {M Mc N : Mem} (h : vJ F M w) (hc : ∀ id blk, Mc id = some blk -> M id = some blk) (ha : After F Mc w F' N w') : After F M w F' (M.PN Mc N) w' := by
  have sub:∀ k,jv Mc k->jv M k:=λk ⟨id,blk,hm,ho⟩=>⟨id,blk,hc id blk hm,ho⟩;have part:∀ id blk,(M.PN Mc N) id=some blk->N id=some blk \/ (Mc id=Option.none/\M id=some blk):=λid blk hm=>by
    unfold Mem.PN at hm;cases hq:N id with
    | some b=>simp[hq] at hm;exact .inl (by rw[<- hm])
    | none =>
      simp only[hq,Option.isSome_none,Bool.false_eq_true,if_false] at hm;cases hp:Mc id with
      | some b=>simp[hp] at hm
      | none=>simp[hp] at hm;exact .inr ⟨rfl,hm⟩
  have far:∀ id blk k,Mc id=Option.none->M id=some blk->blk.owns k->k<w.heap.size/\¬ jv Mc k:=λid blk k hn hm ho =>
    ⟨(h.own id blk hm).lt ho, λ⟨id', ji, hm', ho'⟩ => by
      have:=h.inj id id' _ _ k hm (hc id' ji hm') ho ho';subst this;rw[hn] at hm';cases hm'⟩
  refine⟨ha.grow.mono sub,ha.le,⟨ha.iq.uf,λid blk hm=>?_,λid blk k hm ho=>?_,λi j bi bj k hi hj hoi hoj=>?_⟩,λk p q=>(ha.new k p q).imp (λz=>z) (sub k),λk ⟨id,blk,hm,ho⟩=>?_⟩
  · rcases part id blk hm with hm | ⟨hn, hm⟩
    · exact ha.iq.own id blk hm
    · exact (h.own id blk hm).keep ha.le λk ho=>let ⟨h1,h2⟩:=far id blk k hn hm ho;ha.grow.block k h1 h2
  · rcases part id blk hm with hm | ⟨hn, hm⟩
    · exact ha.iq.apart id blk k hm ho
    · obtain⟨h1, h2⟩:=far id blk k hn hm ho
      cases hf:F' k with
      | none=>rfl
      | some o =>
        rcases ha.new k (h.apart id blk k hm ho) (by rw[hf];simp) with h3|h3
        · omega
        · exact absurd h3 h2
  · rcases part i bi hi with hi | ⟨ni, hi⟩ <;> rcases part j bj hj with hj | ⟨nj, hj⟩
    · exact ha.iq.inj i j bi bj k hi hj hoi hoj
    · obtain⟨h1, h2⟩:=far j bj k nj hj hoj
      rcases ha.lS k ⟨i,bi,hi,hoi⟩ with h3|h3
      · omega
      · exact absurd h3 h2
    · obtain⟨h1, h2⟩:=far i bi k ni hi hoi
      rcases ha.lS k ⟨j,bj,hj,hoj⟩ with h3|h3
      · omega
      · exact absurd h3 h2
    · exact h.inj i j bi bj k hi hj hoi hoj
  · rcases part id blk hm with hm | ⟨hn, hm⟩
    · exact (ha.lS k ⟨id,blk,hm,ho⟩).imp (λz=>z) (sub k)
    · exact .inr ⟨id,blk,hm,ho⟩
theorem SO.ak0 {α:Type}{f:Operand}{args:Array Operand}{ats:Array TypeId}{mZ:Nat}{caps args':List V}{Mc:Mem}{Mk:α->Mem}{res:α->V}{φ:α->Prop}{dst:Option Nat}{g:Option (Nat × Bool)}(hd:pJ E.n dst)
  (hf:s.ev f=.fn mZ caps) (ha:fH (args.toList.map s.ev++caps) args') (hc:∀ id blk,Mc id=some blk->s.M id=some blk) (hs:rJ P mZ args' Mc res Mk φ)
  (h:∀ x,φ x->K ((⟨s.ρ,s.M.PN Mc (Mk x)⟩:S).put dst (res x))):SO P E ⟨dst,.call { callee:=.value f,args:=args,argTypes:=ats },ty,pos,after,g⟩ K s:=λF a w hr=>by
 have hf':=hr.eval f;rw[hf] at hf';generalize YD:a.eval f=af at hf';cases hf' with
 | @fn _ us _ hl hrr =>
  have hvs:kX F (args.toList.map a.eval++us) args':=qg (vK (nY hr.eval _) ⟨hl,hrr⟩) ha;have hcc:=hs.2 F w _ (BQ hr.iq hc) hvs;unfold execOp;have e1:(args.map a.eval++us.toArray)=(args.toList.map a.eval++us).toArray:=by simp
  simp only[resolve,YD,Deferred.ofValue,Sem.run_bind,Sem.run_pure,Result.andThen_ok,invoke,Array.empty_append,e1,lX hs.1];refine hcc.mono λe2 w' ⟨x,hφ,v,F',he,hA,hv⟩=>⟨v,he,F',_,hr.o9 (After.PN hr.iq hc hA) hd hv,h x hφ⟩
