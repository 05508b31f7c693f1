/-
  Walks of layers 22 and 23 of the specification, part 1: vectors (printed by mk2.py).
-/
import Derived.Test.YtfbblpngcmjooaaGreatDoorKWkW
import Derived.Test.YtfbblpngcmjooaaGreatDoorKWkY
import Derived.Test.YtfbblpngcmjooaaGreatDoorKMod97
set_option linter.unusedVariables false
set_option linter.unusedSimpArgs false
namespace Go.AL
open Go Go.BigFrame
def Mem.joined (M N:Mem):Mem:=fun id=>if (N id).isSome then N id else M id
section
variable {P:Program}{E:Env}{K:S→Prop}{s:S}{ty:Nat}{pos:String}{after:Array Edge}
theorem After.joined {F F':Hp}{w w':World}{M N:Mem}(h:Sim F M w)(ha:After F noMem w F' N w'):After F M w F' (M.joined N) w':=by
 have part:∀ id blk,(M.joined N) id=some blk→N id=some blk ∨ (N id=Option.none∧M id=some blk):=fun id blk hm=>by
  unfold Mem.joined at hm
  cases hq:N id with
  | none=>simp [hq] at hm;exact .inr ⟨rfl,hm⟩
  | some b=>simp [hq] at hm;exact .inl (by rw [← hm])
 have far:∀ id blk k,M id=some blk→blk.owns k→k<w.heap.size:=fun id blk k hm ho=>(h.own id blk hm).lt ho
 have new:∀ id blk k,N id=some blk→blk.owns k→w.heap.size≤k:=fun id blk k hm ho=>(ha.mnew k ⟨id,blk,hm,ho⟩).resolve_right (owned_none k)
 refine ⟨ha.grow.mono fun i x=>absurd x (owned_none i),ha.le,⟨ha.sim.imm,fun id blk hm=>?_,fun id blk k hm ho=>?_,fun i j bi bj k hi hj ki kj=>?_⟩,fun k p q=>.inl ((ha.new k p q).resolve_right (owned_none k)),fun k ⟨id,blk,hm,ho⟩=>?_⟩
 ·rcases part id blk hm with hm|⟨_,hm⟩
  ·exact ha.sim.own id blk hm
  ·exact (h.own id blk hm).keep ha.le fun k ho=>ha.grow.block k (far id blk k hm ho) (owned_none k)
 ·rcases part id blk hm with hm|⟨_,hm⟩
  ·exact ha.sim.apart id blk k hm ho
  ·cases hf:F' k with
   | none=>rfl
   | some o =>
    have h1:=far id blk k hm ho
    have h2:=(ha.new k (h.apart id blk k hm ho) (by rw [hf];simp)).resolve_right (owned_none k)
    omega
 ·rcases part i bi hi with hi|⟨ni,hi⟩ <;> rcases part j bj hj with hj|⟨nj,hj⟩
  ·exact ha.sim.inj i j bi bj k hi hj ki kj
  ·have:=new i bi k hi ki;have:=far j bj k hj kj;omega
  ·have:=far i bi k hi ki;have:=new j bj k hj kj;omega
  ·exact h.inj i j bi bj k hi hj ki kj
 ·rcases part id blk hm with hm|⟨_,hm⟩
  ·exact .inl (new id blk k hm ho)
  ·exact .inr ⟨id,blk,hm,ho⟩
theorem SO.callNews {α:Type}{f:Operand}{args:Array Operand}{ats:Array TypeId}{fid:Nat}{caps args':List V}{Mk:α→Mem}{res:α→V}{φ:α→Prop}{dst:Option Nat}{g:Option (Nat × Bool)}(hd:Below' E.n dst)
  (hf:s.ev f=.fn fid caps) (ha:VLes (args.toList.map s.ev++caps) args') (hs:FSpecE P fid args' noMem res Mk φ)
  (h:∀ x,φ x→K ((⟨s.ρ,s.M.joined (Mk x)⟩:S).put dst (res x))):SO P E ⟨dst,.call { callee:=.value f,args:=args,argTypes:=ats },ty,pos,after,g⟩ K s:=fun F a w hr=>by
 have hf':=hr.eval f;rw [hf] at hf'
 generalize haf:a.eval f=af at hf'
 cases hf' with
 | @fn _ us _ hl hrr =>
  have hvs:SimVs F (args.toList.map a.eval++us) args':=simVs_le (simVs_app (simVs_map hr.eval _) ⟨hl,hrr⟩) ha
  have hcc:=hs.2 F w _ (sim_none hr.sim.imm) hvs
  unfold execOp
  have e1:(args.map a.eval++us.toArray)=(args.toList.map a.eval++us).toArray:=by simp
  simp only [resolve,haf,Deferred.ofValue,Sem.run_bind,Sem.run_pure,Result.andThen_ok,invoke,Array.empty_append,e1,run_call_fn hs.1]
  refine hcc.mono fun e2 w' ⟨x,hφ,v,F',he,hA,hv⟩=>?_
  exact ⟨v,he,F',_,hr.after_put (dst:=dst) (After.joined hr.sim hA) hd (v:=res x) hv,h x hφ⟩
end
theorem FSpec.read {P:Program}{f id b c e sz:Nat}{es:List D}{args args2:List V}{x:Value}(h:FSpec P f args (.d (.sc x)))(ha:VLes (args2.map (V.frz id b c es)) args) :
  FSpecM P f args2 (mem1 id (.row b c e sz es)) (.d (.sc x)) (mem1 id (.row b c e sz es)) :=
 ⟨h.1,fun F w vals hS hv=>by
  obtain ⟨F',h1,h2,h3,h4⟩:=freeze_row hS (mem1_self id (.row b c e sz es))
  have hv':SimVs F' vals args:=simVs_le ⟨by rw [hv.1,lm9],fun i y u hy hu=>by
   rw [List.getElem?_map] at hy
   cases hq:args2[i]? with
   | none=>rw [hq] at hy;cases hy
   | some z=>rw [hq] at hy;cases hy;exact V.frz_sim h1 h4 (hv.2 i z u hq hu)⟩ ha
  refine (h.2 F' w vals h2.imm hv').mono fun e2 w' ⟨v,F'',he,hx,hr⟩=>⟨v,F,he,⟨hx.grow.mono fun i k=>k.elim,Hp.le.refl _,⟨fun k o hk=>hx.imm k o (hx.le k o (h1 k o hk)),fun j blk hm=>?_,hS.apart,hS.inj⟩,fun k p q=>absurd p q,fun k k2=>.inr k2⟩,?_⟩
  ·refine (hS.own j blk hm).keep (Hp.le.refl _) fun k ho=>hx.grow.block k ((hS.own j blk hm).lt ho) fun q=>q
  ·cases hr with
   | d hd ho=>cases hd with
    | sc hs=>exact .d (.sc hs) ho⟩
end Go.AL
namespace Go.Proofs.YtfbblpngcmjooaaGreatDoor
open Go Go.AL
theorem lead_next {v:List Rat}{i:Nat}(h:∀ j,j<i→v.getD j 0=0)(h0:v.getD i 0=0):∀ j,j<i+1→v.getD j 0=0:=fun j hj=>by
 rcases Nat.lt_or_ge j i with g|g
 ·exact h j g
 ·rw [show j=i by omega];exact h0
abbrev lessT (v w:List Rat)(c:Rat)(i:Nat):List Rat:=(lessQ v w c).take i
theorem lessT_snoc {v w:List Rat}{c:Rat}{i:Nat}(h:i<v.length):lessT v w c (i+1)=lessT v w c i++[v.getD i 0-w.getD i 0*c]:=by
 unfold lessT
 rw [take_snoc9 0 (by rw [lessQ_len];exact h)]
 congr 2
 exact map_getD_range _ _ h
theorem leadI_neg {rs:List SRow}{w:List Rat}:leadI (redV rs w)<0 ↔ growsS rs w=false:=by
 unfold leadI growsS
 split
 ·rename_i h;rw [decide_eq_true h];constructor
  ·intro;omega
  ·intro k;cases k
 ·rename_i h;rw [decide_eq_false h];exact ⟨fun _=>rfl,fun _=>by decide⟩
def redK:List SRow→List Rat→List Rat→List Rat
 | [],_,t=>t
 | r::rs,w,t=>redK rs (redStep w r) (lessQ t r.c (qotR w r))
theorem redK_len:∀ (rs:List SRow) (w t:List Rat),(redK rs w t).length=t.length
 | [],_,_=>rfl
 | r::rs,w,t=>by rw [redK,redK_len rs,lessQ_len]
theorem redK_snoc {r:SRow}:∀ (a:List SRow) (w t:List Rat),redK (a++[r]) w t=lessQ (redK a w t) r.c (qotR (redV a w) r)
 | [],_,_=>rfl
 | x::a,w,t=>by rw [List.cons_append,redK,redK,redV,redK_snoc a]
theorem redK_take {rs:List SRow}{w t:List Rat}{k:Nat}(hk:k<rs.length):redK (rs.take (k+1)) w t=lessQ (redK (rs.take k) w t) (rs.getD k default).c (qotR (redV (rs.take k) w) (rs.getD k default)):=by rw [take_snocS hk,redK_snoc]
abbrev dSK (r:SRow):D:=.ag [dQs r.v,dQs r.c]
abbrev vSK (r:SRow):V:=.ag [.d (dQs r.v),.d (dQs r.c)]
abbrev rowSK (b c:Nat)(rs:List SRow):Blk:=.row b c T.row 2 (rs.map dSK)
theorem vd_SK {r:SRow}:VD (vSK r) (dSK r):=VD.ag (.cons (VC.d _) (.cons (VC.d _) .nil))
theorem rowSK_el {rs:List SRow}{i:Nat}(hi:i<rs.length):(rs.map dSK)[i]? = some (dSK (rs.getD i default)):=by rw [List.getElem?_map,gd9,ge9 hi];rfl
structure RowsK (n N:Nat) (rs:List SRow):Prop where
 len:∀ r,r ∈ rs→r.v.length=n
 piv:∀ r,r ∈ rs→r.p=firstP r.v∧r.p<n∧r.v.getD r.p 0≠0
 cl:∀ r,r ∈ rs→r.c.length=N
 zr:SzR 16777215 rs
 le:rs.length≤6
theorem lessQ_sz {t c:List Rat}{q:Rat}{T C:Nat}(ht:∀ i,sz (t.getD i 0)≤T)(hc:∀ i,sz (c.getD i 0)+sz q≤C)(i:Nat):sz ((lessQ t c q).getD i 0)≤T+C+1:=by
 unfold lessQ
 refine range_sz t.length (f:=fun i=>t.getD i 0-c.getD i 0*q) (by omega) (fun i=>?_) i
 have h1:=sz_sub (t.getD i 0) (c.getD i 0*q)
 have h2:=sz_mul (c.getD i 0) q
 have h3:=ht i
 have h4:=hc i
 omega
theorem redK_szJ {B:Nat}:∀ (rs:List SRow) (j:Nat) (w t:List Rat),(∀ k r,rs[k]? = some r→(∀ i,sz (r.v.getD i 0)+1≤4 ^ (j+k)*(B+1))∧∀ i,sz (r.c.getD i 0)+1≤4 ^ (j+k)*(B+1))→(∀ i,sz (w.getD i 0)+1≤4 ^ j*(B+1))→(∀ i,sz (t.getD i 0)+1≤4 ^ j*(B+1)) →
  ∀ i,sz ((redK rs w t).getD i 0)+1≤4 ^ (j+rs.length)*(B+1)
 | [],_,_,_,_,_,ht,i=>ht i
 | r :: rs, j, w, t, h, hw, ht, i => by
  have h0:=h 0 r rfl
  rw [Nat.add_zero] at h0
  have:=redK_szJ rs (j+1) (redStep w r) (lessQ t r.c (qotR w r)) (fun k q hq=>by
   have:=h (k+1) q hq
   rwa [show j+(k+1)=j+1+k by omega] at this) (fun i=>by
   have:=Go.AL.step_sz hw h0.1 i
   rwa [Nat.pow_succ,Nat.mul_comm (4 ^ j),Nat.mul_assoc]) (fun i=>by
   have h2:=qot_sz hw h0.1
   have:=lessQ_sz (t:=t) (c:=r.c) (q:=qotR w r) (T:=4 ^ j*(B+1)-1) (C:=3*(4 ^ j*(B+1))-3) (fun i=>by have:=ht i;omega) (fun i=>by have:=h0.2 i;omega) i
   have h3:=hw 0
   rw [Nat.pow_succ,Nat.mul_comm (4 ^ j),Nat.mul_assoc]
   omega) i
  rwa [redK,List.length_cons,show j+(rs.length+1)=j+1+rs.length by omega]
theorem RowsK.bounds {n N k:Nat}{rs:List SRow}{w:List Rat}(z:RowsK n N rs)(hk:k<rs.length)(zw:∀ i,sz (w.getD i 0)≤16777215) :
  (∀ i,sz ((redV (rs.take k) w).getD i 0)≤17179869183)∧(∀ i,sz ((redK (rs.take k) w (List.replicate N 0)).getD i 0)≤17179869183)∧(∀ i,sz ((rs.getD k default).v.getD i 0)≤17179869183)∧∀ i,sz ((rs.getD k default).c.getD i 0)≤17179869183:=by
 obtain ⟨h1,_,h3,h4⟩:=z.zr.bounds (n:=N) z.le hk zw
 refine ⟨h1,fun i=>?_,h3,h4⟩
 have ht:(rs.take k).length=k:=by rw [List.length_take];omega
 have hle:=z.le
 have hb:=four_pow_le (show k≤5 by omega)
 have h:=redK_szJ (B:=16777215) (rs.take k) 0 w (List.replicate N 0) (fun k r hk=>by rw [Nat.zero_add];exact (z.zr.take _) k r hk) (fun i=>by rw [Nat.pow_zero,Nat.one_mul];have:=zw i;omega) (fun i=>by rw [Nat.pow_zero,Nat.one_mul,rep_zero,sz_zero];decide) i
 rw [Nat.zero_add,ht] at h
 omega
theorem ref_Quo {x y:Raw}(hx:x.Ok)(hy:y.Ok)(h0:y.q≠0):FSpec P F.ref01_Quo [vRaw x,vRaw y] (vQ (x.q / y.q)):=by
 have a1:=q_sz hx hx.ln hx.ld (by decide)
 have a2:=q_sz hy hy.ln hy.ld (by decide)
 have sn1:=sz_num x.q
 have sn2:=sz_num y.q
 have sd1:=sz_den x.q
 have sd2:=sz_den y.q
 have hn0:y.q.num.natAbs≠0:=fun e=>h0 (Rat.num_eq_zero.1 (by omega))
 have m1:=len_mul x.q.num.natAbs y.q.den
 have m2:=len_mul x.q.den y.q.num.natAbs
 have dd0:=Nat.mul_ne_zero x.q.den_nz hn0
 have hp:=fr_div (s:=decide (x.q.num<0)) (t:=decide (y.q.num<0)) (a:=x.q.num.natAbs) x.q.den_nz y.q.den_nz hn0
 rw [fr_ofQ,fr_ofQ] at hp
 refine FSpec.intro fn.ref01_Quo (by rfl) (by rfl) (nb9 (by rfl)) fun E hE=>(AW.sg hE rfl (bxA rfl rfl fun b2=>(bxA rfl rfl fun b3=>(al z.Rat rfl fun b4=>(OL.nil (AW.seq (AW.dg 1 [0,1,2,3,4,5] order_free hE rfl (by kernel_rfl) (OI.of_OL (os:=[_,_,_,_,_,_]) rfl ?_))))))))
 refine ldPA ag.Rat rfl rfl (vs:=[_,_,_]) rfl (nb9 rfl) (clv rfl .rq1 (ref_Take (by assumption)) (ldPA ag.Rat rfl rfl (vs:=[_,_,_]) rfl (nb9 rfl) (clv rfl .rq1 (ref_Take (by assumption)) (sto sz.Rat rfl rfl rfl rfl rfl (nb9 rfl) (cells2:=[_,_,_]) rfl (sto sz.Rat rfl rfl rfl rfl rfl (nb9 rfl) (cells2:=[_,_,_]) rfl (OL.nil (AW.seq ?_)))))))
 refine AW.dg 1 [0,1,2,3,4,5,6,7,8,9,10,11,12,13,14,15,16] order_free hE rfl (by kernel_rfl) (OI.of_OL (os:=[_,_,_,_,_,_,_,_,_,_,_,_,_,_,_,_,_]) rfl ?_)
 refine faP fd.Rat_0 rfl rfl (ldPC ce.bool rfl rfl rfl (faP fd.Rat_0 rfl rfl (ldPC ce.bool rfl rfl rfl (neb bt.bool rfl rfl (faP fd.Rat_1 rfl rfl (ldPC ce.u32s rfl rfl rfl (ldPA ag.Rat rfl rfl (vs:=[_,_,_]) rfl (nb9 rfl) ?_)))))))
 refine clv rfl .rq1 (ref_den) (clv rfl (VLes.refl _) (ref_timesN (a:=x.q.num.natAbs) (b:=y.q.den) (by omega) (by omega)) (ldPA ag.Rat rfl rfl (vs:=[_,_,_]) rfl (nb9 rfl) (clv rfl .rq1 (ref_den) (faP fd.Rat_1 rfl rfl (ldPC ce.u32s rfl rfl rfl (clv rfl (VLes.refl _) (ref_timesN (a:=x.q.den) (b:=y.q.num.natAbs) (by omega) (by omega)) (clv rfl (VLes.refl _) (ref_over (s:=(decide (x.q.num<0) != decide (y.q.num<0))) (by omega) (by omega) dd0) ?_)))))))
 rw [← hp]
 exact sto sz.Rat rfl rfl rfl rfl rfl (nb9 rfl) (cells2:=[_,_,_]) rfl (OL.nil (AW.ret (RetQ.r ⟨_,.cellA rfl rfl ag.Rat (nb9 rfl) .nil,.ag (.cons (.le vR) (.cons (.le vR) (.cons (.le vR) .nil)))⟩)))
theorem ref_QuoQ {x y:Rat}(hx:sz x≤68719476736)(hy:sz y≤68719476736)(h0:y≠0):FSpec P F.ref01_Quo [vQ x,vQ y] (vQ (x / y)):=by
 have h:=ref_Quo (x:=ofQ x) (y:=ofQ y) (ofQ_ok (by omega)) (ofQ_ok (by omega)) (by rw [q_ofQ];exact h0)
 rw [q_ofQ,q_ofQ] at h;exact h
theorem r22take {l:List Rat}(nl:l.length≤64)(hz:∀ i,sz (l.getD i 0)≤68719476736):FSpec P F.ref22_take [.d (dQs l)] (.d (dQs l)):=by
 refine FSpec.intro fn.ref22_take (by rfl) (by rfl) (nb9 (by rfl)) fun E hE=>(AW.sg hE rfl (asM rfl (OL.nil (AW.sg hE rfl (asM rfl (OL.nil (AW.seq ?_)))))))
 refine AW.seq (AW.own 3 18 T.Rat 3 rfl rfl (AW.rg hE rfl (asD rfl (OL.nil (AW.block ?_)))))
 refine AW.whileK (α:=Nat × Nat × Nat) [(0,_),(2,_)] [] (fun (i,bq,cq)=>[(3,.osl 18 bq i cq),(4,.d (dI i))]) (fun (i,bq,cq)=>[(18,.row bq cq T.Rat 3 ((l.take i).map dQ))]) (fun (i,bq,cq)=>i≤l.length) (fun (i,bq,cq)=>l.length-i) (0,0,0) (.cons (knD rfl) (.cons (knM rfl) .nil)) .nil ⟨Nat.zero_le _,.rq2,.cons rfl .nil⟩ ?_
 rintro ⟨i,bq,cq⟩ h1
 have h1:i≤l.length:=h1
 refine AW.seq (AW.sg hE rfl (mvD rfl (mvD rfl (lnL sl.Rats rfl rfl (c_lss rfl rfl rfl (OL.nil (AW.cond rfl (fun h8=>?_) (fun h8=>?_))))))))
 ·try simp only [dx9] at h8
  refine AW.skip (AW.seq (AW.block ?_))
  have hx:=hz i
  refine AW.rg hE rfl (mvO rfl (mvD rfl (mvD rfl (ixLn sl.Rats 0 rfl rfl (by omega) rfl rfl (ldRA ag.Rat rfl (vs:=[_,_,_]) rfl (nb9 rfl) (clv rfl (VLes.refl _) (ref_TakeQ (q:=l.getD i 0) (by omega)) (lt1 (y:=dQ (l.getD i 0)) sl.Rats vd_q rfl (by decide) ?_)))))))
  refine apO sl.Rats rfl rfl rfl (by rw [lm9,List.length_take];omega) (VC.d _) (fun y hy=>by rw [List.mem_singleton.1 hy];rfl) (by simp only [ls9];omega) (by simp only [ls9];omega) (.inr rfl) (ys:=(l.take (i+1)).map dQ) (by rw [take_snoc9 0 (by omega),List.map_append];rfl) (n2:=i+1) rfl fun b18 c18=>?_
  exact asO rfl (OL.nil (AW.rg hE rfl (mvD rfl (add_i64 rfl rfl (by omega) (asD rfl (OL.nil (AW.again (x:=(i,bq,cq)) (i+1,b18,c18) (by (simp only [];omega)) ⟨by omega,Knows.app .rq2 .rq2,.cons rfl .nil⟩)))))))
 ·try simp only [dx9] at h8
  refine AW.exit (AW.seq ?_)
  obtain rfl:i=l.length:=by omega
  exact AW.rg hE rfl (mvO rfl (asO rfl (OL.nil (AW.ret (RetQ.r ⟨_,.tmp rfl .nil,RO.all rfl rfl (by simp) (by rw [List.take_length])⟩)))))
theorem r22lead {v:List Rat}(nl:v.length≤64)(hz:∀ i,sz (v.getD i 0)≤274877906944):FSpec P F.ref22_lead [.d (dQs v)] (.d (dI (leadI v))):=by
 refine FSpec.intro fn.ref22_lead (by rfl) (by rfl) (nb9 (by rfl)) fun E hE=>(AW.sg hE rfl (asD rfl (OL.nil (AW.seq (AW.sg hE rfl (asD rfl (OL.nil ?_)))))))
 refine AW.block (AW.whileK (α:=Nat) [(0,_)] [] (fun i=>[(3,.d (dI i))]) (fun i=>[]) (fun i=>i≤v.length∧∀ j,j<i→v.getD j 0=0) (fun i=>v.length-i) 0 (.cons (knD rfl) .nil) .nil ⟨⟨Nat.zero_le _,fun j hj=>by omega⟩,.rq1,.nil⟩ ?_)
 rintro i ⟨h1,h2⟩
 have h1:i≤v.length:=h1
 have h2:∀ j,j<i→v.getD j 0=0:=h2
 refine AW.seq (AW.sg hE rfl (mvD rfl (mvD rfl (lnL sl.Rats rfl rfl (c_lss rfl rfl rfl (OL.nil (AW.cond rfl (fun h7=>?_) (fun h7=>?_))))))))
 ·try simp only [dx9] at h7
  refine AW.skip (AW.seq (AW.block (AW.seq ?_)))
  have zx:=hz i
  refine AW.rg hE rfl (mvD rfl (mvD rfl (ixLn sl.Rats 0 rfl rfl (by omega) rfl rfl (ldRA ag.Rat rfl (vs:=[_,_,_]) rfl (nb9 rfl) (clv rfl (VLes.refl _) (ref_SignQ (x:=v.getD i 0) (by omega)) (c_neq rfl rfl rfl (OL.nil ?_)))))))
  refine AW.cond rfl (fun hx=>?_) (fun hx=>?_)
  ·have hx:v.getD i 0≠0:=fun e=>nd_t hx (sgnQ_eq.2 e)
   exact AW.sg hE rfl (mvD rfl (asD rfl (OL.nil (AW.ret (RetQ.r ⟨_,.tmp rfl .nil,.le (VLe.int ((leadI_at (by omega) hx h2).symm))⟩)))))
  ·have hx:v.getD i 0=0:=sgnQ_eq.1 (nd_f hx)
   exact AW.skip (AW.rg hE rfl (mvD rfl (add_i64 rfl rfl (by omega) (asD rfl (OL.nil (AW.again (x:=i) (i+1) (by omega) ⟨⟨by omega,lead_next h2 hx⟩,Knows.app .rq1 .rq1,.nil⟩))))))
 ·try simp only [dx9] at h7
  exact AW.exit (AW.sg hE rfl (asD rfl (OL.nil (AW.ret (RetQ.r ⟨_,.tmp rfl .nil,.le (VLe.int ((leadI_end fun j hj=>h2 j (by omega)).symm))⟩)))))
set_option maxHeartbeats 800000 in
theorem r22less {v w:List Rat}{c:Rat}(nl:v.length≤64)(hw:v.length≤w.length)(zv:∀ i,sz (v.getD i 0)≤17179869183)(zw:∀ i,sz (w.getD i 0)≤17179869183)(zc:sz c≤34359738366):FSpec P F.ref22_less [.d (dQs v),.d (dQs w),vQ c] (.d (dQs (lessQ v w c))):=by
 have hll:=lessQ_len (v:=v) (w:=w) (c:=c)
 refine FSpec.intro fn.ref22_less (by rfl) (by rfl) (nb9 (by rfl)) fun E hE=>(AW.sg hE rfl (bxA rfl rfl fun b5=>(asM rfl (OL.nil (AW.sg hE rfl (asM rfl (OL.nil ?_)))))))
 refine AW.seq (AW.seq (AW.own 7 28 T.Rat 3 rfl rfl (AW.rg hE rfl (asD rfl (OL.nil (AW.block ?_))))))
 refine AW.whileK (α:=Nat × Nat × Nat) [(0,_),(1,_),(5,_),(6,_)] [(5,_)] (fun (i,bq,cq)=>[(7,.osl 28 bq i cq),(8,.d (dI i))]) (fun (i,bq,cq)=>[(28,.row bq cq T.Rat 3 ((lessT v w c i).map dQ))]) (fun (i,bq,cq)=>i≤v.length) (fun (i,bq,cq)=>v.length-i) (0,0,0) (.cons (knD rfl) (.cons (knD rfl) (.cons (knP rfl) (.cons (knM rfl) .nil)))) (.cons (owB rfl) .nil) ⟨Nat.zero_le _,.rq2,.cons rfl .nil⟩ ?_
 rintro ⟨i,bq,cq⟩ h1
 have h1:i≤v.length:=h1
 have z1:=zv i
 have z2:=zw i
 have z3:=sz_mul (w.getD i 0) c
 refine AW.seq (AW.sg hE rfl (mvD rfl (mvD rfl (lnL sl.Rats rfl rfl (c_lss rfl rfl rfl (OL.nil (AW.cond rfl (fun h12=>?_) (fun h12=>?_))))))))
 ·try simp only [dx9] at h12
  refine AW.skip (AW.seq (AW.block (AW.dg 2 [0,1,2,3,4,5,6,7,8,9,10,11,12,13,14] order_free hE rfl (by kernel_rfl) (OI.of_OL (os:=[_,_,_,_,_,_,_,_,_,_,_,_,_,_,_]) rfl ?_))))
  refine mvO rfl (mvD rfl (mvD rfl (ixLn sl.Rats 0 rfl rfl (by omega) rfl rfl (ldRA ag.Rat rfl (vs:=[_,_,_]) rfl (nb9 rfl) (mvD rfl (mvD rfl (ixLn sl.Rats 0 rfl rfl (by omega) rfl rfl ?_)))))))
  refine ldRA ag.Rat rfl (vs:=[_,_,_]) rfl (nb9 rfl) (ldPA ag.Rat rfl rfl (vs:=[_,_,_]) rfl (nb9 rfl) (clv rfl (VLes.refl _) (ref_MulQ (x:=w.getD i 0) (y:=c) (by omega) (by omega)) (clv rfl (VLes.refl _) (ref_SubQ (x:=v.getD i 0) (y:=w.getD i 0*c) (by omega) (by omega)) (lt1 (y:=dQ (v.getD i 0-w.getD i 0*c)) sl.Rats vd_q rfl (by decide) ?_))))
  refine apO sl.Rats rfl rfl rfl (by rw [lm9,List.length_take];omega) (VC.d _) (fun y hy=>by rw [List.mem_singleton.1 hy];rfl) (by simp only [ls9];omega) (by simp only [ls9];omega) (.inr rfl) (ys:=(lessT v w c (i+1)).map dQ) (by rw [lessT_snoc (by omega),List.map_append];rfl) (n2:=i+1) rfl fun b28 c28=>?_
  refine asO rfl (OL.nil (AW.rg hE rfl (mvD rfl (add_i64 rfl rfl (by omega) (asD rfl (OL.nil ?_))))))
  exact AW.again (x:=(i,bq,cq)) (i+1,b28,c28) (by (simp only [];omega)) ⟨by omega,Knows.app .rq4 .rq2,Owns.app (.cons rfl .nil) (.cons rfl .nil)⟩
 ·try simp only [dx9] at h12
  refine AW.exit (AW.seq ?_)
  obtain rfl:i=v.length:=by omega
  exact AW.rg hE rfl (mvO rfl (asO rfl (OL.nil (AW.ret (RetQ.r ⟨_,.tmp rfl .nil,RO.all rfl rfl (by rw [lm9,List.length_take];omega) (by rw [show lessT v w c v.length=lessQ v w c from List.take_of_length_le (by omega)])⟩)))))
theorem r22sized {l:List (List Rat)}{n:Nat}(nl:l.length≤256)(hn:1≤n∧n≤64)(hl:∀ v,v ∈ l→v.length=n):FSpec P F.ref22_sized [.d (.sl (l.map dQs))] (.d (dB true)):=by
 refine FSpec.intro fn.ref22_sized (by rfl) (by rfl) (nb9 (by rfl)) fun E hE=>(AW.sg hE rfl (asD rfl (OL.nil (AW.seq (AW.sg hE rfl (asD rfl (OL.nil ?_)))))))
 refine AW.block (AW.whileK (α:=Nat) [(0,_)] [] (fun i=>[(3,.d (dI i))]) (fun i=>[]) (fun i=>i≤l.length) (fun i=>l.length-i) 0 (.cons (knD rfl) .nil) .nil ⟨Nat.zero_le _,.rq1,.nil⟩ ?_)
 rintro i h1
 have h1:i≤l.length:=h1
 refine AW.seq (AW.sg hE rfl (mvD rfl (mvD rfl (lnL sl.Ratss rfl rfl (c_lss rfl rfl rfl (OL.nil (AW.cond rfl (fun h7=>?_) (fun h7=>?_))))))))
 ·try simp only [dx9] at h7
  refine AW.skip (AW.seq (AW.block (AW.seq ?_)))
  have hx:=hl _ (getD_mem (show i<l.length by omega) [])
  have hy:=hl _ (getD_mem (show 0<l.length by omega) [])
  refine AW.dg 1 [0,1,2,3,4,5,6,7,8,9,10,11,12,13,14,15,16,17,18,19,20,21,22,23,24,25] order_free hE rfl (by kernel_rfl) (OI.of_OL (os:=[_,_,_,_,_,_,_,_,_,_,_,_,_,_,_,_,_,_,_,_,_,_,_,_,_,_]) rfl ?_)
  refine mvD rfl (mvD rfl (ixLn sl.Ratss [] rfl rfl (by omega) rfl rfl (ldRC ce.Rats rfl (lnL sl.Rats rfl rfl (c_lss rfl rfl (c:=false) (by exact decide_eq_false (by omega)) (mvD rfl (OL.yes rfl ?_)))))))
  refine mvD rfl (OL.yes rfl (mvD rfl (OL.yes rfl (ixLn sl.Ratss [] rfl rfl (by omega) rfl rfl (OL.yes rfl (ldRC ce.Rats rfl (OL.yes rfl ?_)))))))
  refine lnL sl.Rats rfl rfl (OL.yes rfl (c_gtr rfl rfl (c:=false) (by exact decide_eq_false (by omega)) (pkF rfl rfl (mvD rfl (OL.yes rfl (mvD rfl (OL.yes rfl ?_)))))))
  refine mvD rfl (OL.yes rfl (ixLn sl.Ratss [] rfl rfl (by omega) rfl rfl (OL.yes rfl (ldRC ce.Rats rfl (OL.yes rfl (lnL sl.Rats rfl rfl (OL.yes rfl ?_)))))))
  refine mvD rfl (OL.yes rfl (ixLe 0 sl.Ratss [] rfl rfl rfl (by omega) rfl rfl (OL.yes rfl (ldRC ce.Rats rfl (OL.yes rfl (lnL sl.Rats rfl rfl (OL.yes rfl ?_)))))))
  refine c_neq rfl rfl (c:=false) (cne_f (by omega)) (pkF rfl rfl (OL.nil (AW.cond rfl (fun hno=>absurd hno (by decide)) (fun _=>?_))))
  exact AW.skip (AW.rg hE rfl (mvD rfl (add_i64 rfl rfl (by omega) (asD rfl (OL.nil (AW.again (x:=i) (i+1) (by omega) ⟨by omega,Knows.app .rq1 .rq1,.nil⟩))))))
 ·try simp only [dx9] at h7
  exact AW.exit (AW.sg hE rfl (asD rfl (OL.nil (AW.ret (RetQ.r ⟨_,.tmp rfl .nil,.le vR⟩)))))
end Go.Proofs.YtfbblpngcmjooaaGreatDoor
