/-
  AL, part 9: every rule of 'NewR', 'AppR', 'StoreR', 'CallR' is right of the machine.
-/
import Derived.Test.YtnjoncgnjdkaoaaGreatDoorKAlga
import Derived.Lib.AppendZerosOnto
set_option linter.unusedVariables false
set_option linter.unusedSimpArgs false
namespace Go.AL
open Go Go.BigFrame
section
variable {P:Program}{ev:Operand->V}{a:Act}{F:Hp}{w:World}{M:Mem}
theorem SI {sz:Nat}:∀ (vals:List Value) (k:Nat) (cells:List Value),(∀ v,v ∈ vals->v.cells.size=sz)->(k+vals.length)*sz<=cells.length ->
  Instr.fill (λi=>some (i*sz,sz)) cells.toArray ((vals.zipIdx k).map λp=>(p.2,p.1))=some (cells.take (k*sz)++vals.flatMap (·.cells.toList)++cells.drop ((k+vals.length)*sz)).toArray
 | [],k,cells,_,_=>by simp[Instr.fill]
 | v :: r, k, cells, h, hl => by
  have hv:=h v uZ
  have hvl:v.cells.toList.length=sz:=by simpa using hv
  have hk:k*sz+sz<=cells.length:=by
   have:(k+1)*sz<=(k+(v::r).length)*sz:=Nat.mul_le_mul_right _ (by simp)
   rw[Nat.add_mul] at this;omega
  rw[List.zipIdx_cons,List.map_cons]
  simp only[Instr.fill]
  rw[if_neg (by simp[hv];omega)]
  have hf:=SA v.cells.toList (k*sz) 0 cells (by rw[hvl];omega)
  rw[<- Array.foldl_toList,Array.toList_zipIdx,hf]
  have hl':(k+1+r.length)*sz<=(cells.take (k*sz+0)++v.cells.toList++cells.drop (k*sz+0+v.cells.toList.length)).length:=by
   simp only[jG,List.length_take,List.length_drop,hvl]
   have e:k+1+r.length=k+(v::r).length:=by simp;omega
   rw[e];omega
  rw[SI r (k+1) _ (λx hx=>h x (List.mem_cons_of_mem _ hx)) hl']
  congr 2
  have ht:(cells.take (k*sz)).length=k*sz:=by rw[List.length_take];omega
  have e1:(k+1)*sz=k*sz+sz:=by rw[Nat.add_mul];omega
  have e2:(k+1+r.length)*sz=k*sz+sz+r.length*sz:=by rw[Nat.add_mul,Nat.add_mul];omega
  have e3:(k+(v::r).length)*sz=k*sz+sz+r.length*sz:=by rw[List.length_cons,Nat.add_mul,Nat.add_mul];omega
  rw[e1,e2,e3,Nat.add_zero,hvl]
  rw[List.take_append_of_le_length (by rw[jG,ht,hvl];exact Nat.le_refl _),List.take_of_length_le (by rw[jG,ht,hvl];exact Nat.le_refl _)]
  rw[List.drop_append,List.drop_eq_nil_of_le (by rw[jG,ht,hvl];omega),jG,ht,hvl,List.nil_append,List.drop_drop,List.flatMap_cons]
  simp only[List.append_assoc]
  congr 4
  omega
theorem ac3 {us:List Value}{xs:List D}{sz:Nat}(hl:us.length=xs.length)(hr:∀ (i:Nat) (x:D) (u:Value),xs[i]? = some x->us[i]? = some u->Rep F u x)(hsz:∀ y,y ∈ xs->y.cells.length=sz) :
  (us.flatMap (·.cells.toList)).length=us.length*sz/\(∀ u,u ∈ us->u.cells.size=sz)/\(∀ u,u ∈ us.flatMap (·.cells.toList)->u.oneCell' = true) /\
  ∀ (i:Nat) (d:D) (u:Value),(xs.flatMap D.cells)[i]? = some d->(us.flatMap (·.cells.toList))[i]? = some u->Rep F u d:=by
 induction us generalizing xs with
 | nil=>refine⟨by simp,by simp,by simp,λi d u _ hu=>by simp at hu⟩
 | cons u r ih =>
  cases xs with
  | nil=>simp at hl
  | cons x xs =>
   obtain⟨i1,i2,i3,i4⟩:=ih (xs:=xs) (by simpa using hl) (λi x u hx hu=>hr (i+1) x u (by simpa using hx) (by simpa using hu)) (λy hy=>hsz y (List.mem_cons_of_mem _ hy))
   obtain⟨c1,c2,c3⟩:=IL (hr 0 x u rfl rfl)
   have hx:=hsz x uZ
   refine⟨by rw[List.flatMap_cons,jG,i1,c1,hx,List.length_cons,Nat.add_mul];omega,λy hy=>?_,λy hy=>?_,λi d y hd hy=>?_⟩
   .rcases List.mem_cons.1 hy with rfl|hy
    .rw[<- Array.length_toList,c1,hx]
    .exact i2 y hy
   .rw[List.flatMap_cons] at hy
    rcases ul hy with hy|hy
    .exact c2 y hy
    .exact i3 y hy
   .rw[List.flatMap_cons,List.getElem?_append] at hd hy
    rw[c1] at hy
    split at hd
    .rename_i hi;rw[if_pos hi] at hy;exact c3 i d y hd hy
    .rename_i hi;rw[if_neg hi] at hy;exact i4 _ d y hd hy
theorem Ag {o:Oper}{s:Sem Value}{v:Value}{w':World}{R:Value->World->Prop}(ho:execOp a.eval o=(do pure (.value (<- s))))(hr:s.run P w=.ok v w')(h:R v w') :
  Good P ((execOp a.eval o).run P w) R:=QF ho hr h
theorem SN (hS:wI F M w){t e sz eF n cp:Nat}{k k':IntKind}{z:D}{zs:List V}(hT:bD P t e sz eF)(hz:eU P e zs)(hc:VCs zs z.cells)(hn:n<=cp)(hb:eF*cp<=281474976710656)(hm:cp<=9223372036854775807)(d:Nat) :
  ∃ (v:Value) (w':World) (b:Nat),(Instr.makeSlice t (.int k (n:Int)) (.int k' (cp:Int))).run P w=.ok v w' /\ After F M w F (upd M d (some (.row b cp e sz (List.replicate n z)))) w' /\
   dm F v (.bF d b n cp)/\v.oneCell' = true:=by
 obtain⟨i,zv,hi,hzv,h1,h2,h3⟩:=hT.parts
 obtain⟨i',zv',hi',ac4,z1,z2,z3⟩:=hz.parts
 rw[hi] at hi';cases hi'
 rw[hzv] at ac4;cases ac4
 have hzl:zs.length=sz:=by rw[<- h2,z3]
 have hdl:z.cells.length=sz:=by rw[<- hc.length,hzl]
 have hb':(i.bytes:Int)*(cp:Int)<=281474976710656:=by
  have:((i.bytes*cp:Nat):Int)<=281474976710656:=by rw[h3];omega
  rwa [Int.natCast_mul] at this
 have hrun:=run_make (P:=P) w t e i zv hT.u hi hzv k k' (n:Int) (cp:Int) (by omega) (by omega) hb' (by omega)
 simp only[Int.toNat_natCast] at hrun
 rw[h2] at hrun
 have hget:∀ (j:Nat) (u:Value),(madeCells zv.cells (cp*sz)).toList[j]? = some u->j<cp*sz/\zv.cells.toList[j % sz]? = some u:=λj u hu=>by
  have hj:j<cp*sz:=by have:=(List.getElem?_eq_some_iff.1 hu).1;simpa [madeCells] using this
  refine⟨hj,?_⟩
  simp only[madeCells,Array.toList_map,Array.toList_range,List.getElem?_map,List.getElem?_range hj,Option.map_some,Option.some.injEq] at hu
  have hlt:j % sz<zv.cells.size:=by rw[h1];exact Nat.mod_lt _ hT.pos
  rw[h1,getElem!_pos zv.cells (j % sz) hlt] at hu
  rw[<- hu]
  simp[hlt]
 refine⟨_,_,w.heap.size,hrun,Kv hS d e cp sz (madeCells zv.cells (cp*sz)).toList _ (by simpa using hn) (by simp[madeCells]) (λu hu=>?_) (λx hx=>?_) (λj x u hx hu=>?_) rfl rfl rfl (by rw[Array.toArray_toList];rfl),.bF (λ_=>rfl) hn,rfl⟩
 .obtain⟨j,hj⟩:=List.mem_iff_getElem?.1 hu
  exact hT.one hi hzv u (List.mem_of_getElem? (hget j u hj).2)
 .rw[(List.mem_replicate.1 hx).2];exact hdl
 .obtain⟨hj,hzu⟩:=hget j u hu
  have hs:∀ y,y ∈ List.replicate n z->y.cells.length=sz:=λy hy=>by rw[(List.mem_replicate.1 hy).2];exact hdl
  have hjn:j<n*sz:=by
   have:=(List.getElem?_eq_some_iff.1 hx).1
   have hfl:((List.replicate n z).flatMap D.cells).length=n*sz:=by rw[flat_length hs,List.length_replicate]
   rw[hfl] at this
   exact this
  have hq:j / sz<n:=Nat.div_lt_of_lt_mul (by rw[Nat.mul_comm];exact hjn)
  have hmod:j % sz<sz:=Nat.mod_lt _ hT.pos
  have hg:=flat_get hs (i:=j / sz) (e:=z) (by rw[List.getElem?_replicate,if_pos hq]) (j % sz) hmod
  rw[Nat.mul_comm,Nat.div_add_mod] at hg
  rw[hg] at hx
  obtain⟨x',hx',hvc⟩:=hc.get _ _ hx
  rw[<- z1,List.getElem?_map,hzu] at hx'
  simp only[Option.map_some,Option.some.injEq] at hx'
  rw[<- hx'] at hvc
  exact (hvc F u (GL F u)).1
theorem Xu (hS:wI F M w)(hev:∀ x,dm F (a.eval x) (ev x)){t e sz eF len:Nat}{parts:Array (Nat × Operand)}{xs:List D}(hT:bD P t e sz eF)(hl:parts.toList.map Prod.fst=List.range len)(hn:xs.length=len)
  (QG:len*sz<=16777216) (hpos:0<len) (hx:∀ (i:Nat) (p:Nat × Operand) (y:D),parts.toList[i]? = some p->xs[i]? = some y->VD (ev p.2) y) (hsz:∀ y,y ∈ xs->y.cells.length=sz) (d:Nat) :
  ∃ (v:Value) (w':World) (b:Nat),(Instr.buildSlice t len (parts.map λp=>(p.1,a.eval p.2))).run P w=.ok v w' /\ After F M w F (upd M d (some (.row b len e sz xs))) w' /\
   dm F v (.bF d b len len)/\v.oneCell' = true:=by
 obtain⟨i,zv,hi,hzv,h1,h2,h3⟩:=hT.parts
 have hpl:parts.toList.length=len:=by have:=congrArg List.length hl;simpa using this
 have hrep:∀ (i:Nat) (x:D) (u:Value),xs[i]? = some x->(parts.toList.map λp=>a.eval p.2)[i]? = some u->Rep F u x:=λi x u h h'=>by
  rw[List.getElem?_map] at h'
  cases hp:parts.toList[i]? with
  | none=>simp[hp] at h'
  | some p =>
   simp only[hp,Option.map_some,Option.some.injEq] at h'
   rw[<- h']
   exact hx i p x hp h F _ (hev p.2)
 obtain⟨r1,r2,r3,r4⟩:=ac3 (us:=parts.toList.map λp=>a.eval p.2) (by simp[hpl,hn]) hrep hsz
 have hparts:(parts.toList.map λp=>(p.1,a.eval p.2))=((parts.toList.map λp=>a.eval p.2).zipIdx 0).map λp=>(p.2,p.1):=by
  apply List.ext_getElem?
  intro j
  simp only[List.getElem?_map,List.getElem?_zipIdx]
  cases hp:parts.toList[j]? with
  | none=>simp
  | some p =>
   have hj:j<len:=by rw[<- hpl];exact (List.getElem?_eq_some_iff.1 hp).1
   have:(parts.toList.map Prod.fst)[j]? = some j:=by rw[hl,List.getElem?_range hj]
   rw[List.getElem?_map,hp] at this
   simp only[Option.map_some,Option.some.injEq] at this
   simp[this]
 have hne:¬ len*sz=0:=by have:=Nat.mul_pos hpos hT.pos;omega
 have bj4:¬ (16777216<len*sz):=by omega
 have Xv:=SI (sz:=sz) (parts.toList.map λp=>a.eval p.2) 0 ((Array.range (len*sz)).map (zv.cells[· % zv.cells.size]!)).toList r2 (by simp[hpl])
 rw[Array.toArray_toList,<- hparts] at Xv
 have hzr:(zeroValue e).run P w=.ok zv w:=by simp[zeroValue,typeInfo,hi,hzv]
 have hlen:(((Array.range (len*sz)).map (zv.cells[· % zv.cells.size]!)).toList.drop ((0+(parts.toList.map λp=>a.eval p.2).length)*sz))=[]:=List.drop_eq_nil_of_le (by simp[hpl])
 rw[hlen] at Xv
 simp only[Nat.zero_mul,List.take_zero,List.nil_append,List.append_nil] at Xv
 have hrun:(Instr.buildSlice t len (parts.map λp=>(p.1,a.eval p.2))).run P w =
   .ok (.slice (some ⟨w.heap.size,0,none⟩) len len) (w.alloc (.cells ((parts.toList.map λp=>a.eval p.2).flatMap (·.cells.toList)).toArray e)):=by
  have e1:(parts.map λp=>(p.1,a.eval p.2)).toList=parts.toList.map λp=>(p.1,a.eval p.2):=by simp
  unfold Instr.buildSlice
  simp only[Sem.run_bind,run_underlying hT.u,Result.andThen_ok,kJ hT,e1]
  rw[if_neg (by simpa using bj4),if_neg hne]
  simp only[Sem.run_bind,Sem.run_pure,Result.andThen_ok,hzr]
  rw[Xv]
  simp[newRow]
 refine⟨_,_,w.heap.size,hrun,Kv hS d e len sz _ xs (by omega) (by rw[r1];simp[hpl]) r3 hsz r4 rfl rfl rfl rfl,.bF (λ_=>rfl) (Nat.le_refl _),rfl⟩
end
section
variable {P:Program}{ev:Operand->V}{a:Act}{F:Hp}{w:World}{M:Mem}
theorem IV {x:V}{y:D}(h:VC x y){v:Value}(hs:dm F v x):Rep F v y:=(h F v hs).1
theorem Lc (hS:wI F M w)(d e sz:Nat):wI F (upd M d (some (.row 0 0 e sz []))) w:=by
 have part:∀ j bl,(upd M d (some (iE.row 0 0 e sz []))) j=some bl->(bl=.row 0 0 e sz []) \/ M j=some bl:=λj bl h=>by
  unfold upd at h
  split at h
  .cases h;exact .inl rfl
  .exact .inr h
 have no:∀ k,¬ (iE.row 0 0 e sz []).owns k:=λk h=>by obtain⟨h,_⟩:=h;omega
 refine⟨hS.rM,λj bl h=>?_,λj bl k h ho=>?_,λj j' bl GH k h h' ho ho'=>?_⟩
 .rcases part j bl h with rfl|h
  .exact⟨by simp,by simp,λh=>by omega⟩
  .exact hS.own j bl h
 .rcases part j bl h with rfl|h
  .exact absurd ho (no k)
  .exact hS.apart j bl k h ho
 .rcases part j bl h with rfl|h
  .exact absurd ho (no k)
  .rcases part j' GH h' with rfl|h'
   .exact absurd ho' (no k)
   .exact hS.inj j j' bl GH k h h' ho ho'
theorem ac5 (hS:wI F M w){t ty e sz eF:Nat}(hT:bD P t e sz eF)(d:Nat){xs:List D}{u x:Value}(hu:dm F u .mt)(hx:Rep F x (.sl xs))(hsz:∀ y,y ∈ xs->y.cells.length=sz)
  (hb:xs.length*eF<=140737488355328) (hm:xs.length<=4611686018427387904) :
  ∃ (v:Value) (w':World) (b' c':Nat),(Builtin.append_ #[t,t] ty #[u,x]).run P w=.ok v w' /\ After F M w F (upd M d (some (.row b' c' e sz xs))) w' /\ dm F v (.bF d b' xs.length c')/\v.oneCell' = true:=by
 have hu':dm F u (.bF d 0 0 0):=by cases hu;exact .bF (λh=>by omega) (Nat.le_refl _)
 have hS':=Lc hS d e sz
 obtain⟨v,w',b',c',h1,h2,h3,h4⟩:=Ci (P:=P) (ty:=ty) (d:=d) hS' hT hu' rfl (upd_same _ _ _) (.inr rfl) hx hsz (by simpa using hb) (by simpa using hm)
 refine⟨v,w',b',c',h1,?_,by simpa using h3,h4⟩
 have e1:upd (upd (upd M d (some (iE.row 0 0 e sz []))) d none) d (some (iE.row b' c' e sz ([]++xs)))=upd M d (some (.row b' c' e sz xs)):=by
  rw[Kw,Kw];rfl
 rw[e1] at h2
 have sub:∀ k,jM (upd M d (some (iE.row 0 0 e sz []))) k->jM M k:=λk ⟨j,bl,hj,ho⟩=>by
  unfold upd at hj
  split at hj
  .cases hj;obtain⟨h,_⟩:=ho;omega
  .exact⟨j,bl,hj,ho⟩
 exact⟨h2.grow.mono sub,h2.le,h2.gU,λk p q=>(h2.new k p q).imp (λz=>z) (sub k),λk p=>(h2.kM k p).imp (λz=>z) (sub k)⟩
theorem Ext.Ld {F':Hp}{M':Mem}{w':World}(h:After F jO w F' M' w'):Ext F w F' w' :=
 ⟨h.grow.mono (λi x=>kH i x),h.le,h.gU.rM,λk p q=>(h.new k p q).resolve_right (kH k)⟩
theorem Af.sound {o:Oper}{op:Op}{v:V}(ho:o.op=op)(hp:Af P ev op v)(hev:∀ x,dm F (a.eval x) (ev x))(hF:Hp.Sl F w) :
  Good P ((execOp a.eval o).run P w) λu w'=>∃ F',Ext F w F' w' /\ dm F' u v:=by
 have hS:=DZ hF
 cases hp with
 | @ac0 t e sz eF n x y k k' z zs hx hy hT hz hc hb hm =>
  have hx':=hev x;rw[hx] at hx'
  have hy':=hev y;rw[hy] at hy'
  obtain⟨v,w',b,h1,h2,h3,h4⟩:=SN (P:=P) (k:=k) (k':=k') hS hT hz hc (Nat.le_refl _) hb hm 0
  obtain⟨F',f1,f2⟩:=GY h2 h3 (by simp) h4
  exact Ag (by unfold execOp;rw[ho]) (by rw[iL hx',iL hy'];exact h1) ⟨F',Ext.Ld f1,f2⟩
 | @aw9 t e sz eF s x xs ats ha hs hx hT hsz hb hm =>
  obtain⟨t2,e2,rfl,hu2⟩:=ha
  have hs':=hev s;rw[hs] at hs'
  obtain⟨v,w',b,c,h1,h2,h3,h4⟩:=ac5 (ty:=o.type) hS hT 0 hs' (IV hx (hev x)) hsz hb hm
  obtain⟨F',f1,f2⟩:=GY h2 h3 rfl h4
  exact vk hT.u hu2 ho h1 ⟨F',Ext.Ld f1,f2⟩
 | @YT t e sz eF len parts xs hT hl hn QG hpos hx hsz =>
  obtain⟨v,w',b,h1,h2,h3,h4⟩:=Xu hS hev hT hl hn QG hpos hx hsz 0
  obtain⟨F',f1,f2⟩:=GY h2 h3 hn.symm h4
  exact Ag (by unfold execOp;rw[ho]) h1 ⟨F',Ext.Ld f1,f2⟩
 | @ax0 t e sz eF hT =>
  refine Ag (by unfold execOp;rw[ho]) (v:=.slice (some ⟨w.heap.size,0,none⟩) 0 0) (w':=w.alloc (.cells #[] e)) ?_ ⟨F,Ext.alloc (w':=w.alloc (.cells #[] e)) hS.rM (.cells #[] e) rfl rfl rfl rfl,.mt⟩
  simp[Instr.buildSlice,Sem.run_bind,run_underlying hT.u,kJ hT,Instr.fill,newRow,Array.range_zero']
theorem QH {o:Oper}{s x:Operand}{t tn:Nat}(ho:o.op=.call { callee:=.builtin .append,args:=#[s,x],argTypes:=#[t,tn] }){R:Value->World->Prop}{v:Value}{w':World}
  (hr:(Builtin.append_ #[t,tn] o.type #[a.eval s,a.eval x]).run P w=.ok v w') (h:R v w'):Good P ((execOp a.eval o).run P w) R:=by
 unfold execOp;rw[ho]
 simp only[resolve,Sem.run_bind,Sem.run_pure,Result.andThen_ok,invoke,builtin_append]
 have e1:(#[s,x].map a.eval) = #[a.eval s,a.eval x]:=by simp
 rw[e1,hr]
 exact h
theorem J5 {t e:Nat}(hT:P.underlying t=some (.slice e))(d:Nat)(ao:Option Addr)(n c:Nat)(w:World):(Op.equalIn (d+1) t (.slice ao n c) (.slice none 0 0)).run P w=.ok ao.isNone w:=by
 cases ao <;> simp[Op.equalIn,run_underlying hT]
theorem yT.sound {o:Oper}{op:Op}{d:Nat}{g:Nat->Nat->V × iE}(ho:o.op=op)(hp:yT P ev d op g)(hev:∀ x,dm F (a.eval x) (ev x))(hS:wI F M w) :
  Good P ((execOp a.eval o).run P w) λu w'=>∃ F' b c,After F M w F' (upd M d (some (g b c).2)) w' /\ dm F' u (g b c).1:=by
 cases hp with
 | @alloc t zs hz =>
  obtain⟨z,hzr,z1,z2,z3⟩:=hz.zero w
  refine Ag (by unfold execOp;rw[ho]) (v:=.pointer (some ⟨w.heap.size,0,none⟩)) (w':=w.alloc (.cells z.cells t)) ?_ ⟨F,w.heap.size,0,?_,.ptr⟩
  .simp[Instr.alloc,Sem.run_bind,hzr,newVar,newRow]
  .have:=Xt hS d t z.cells.toList zs z1 z2 (λi c u=>z3 F i c u) (w':=w.alloc (.cells z.cells t)) rfl rfl rfl (by rw[Array.toArray_toList];rfl)
   exact this
 | @isNil t e yt x es hx hT hpos =>
  have hx':=hev x;rw[hx] at hx'
  generalize hax:a.eval x=ax at hx'
  cases hx' with
  | d hr _ =>
  cases hr with
  | @sl ao n c sz _ us hn hc hsz ha ho' hr' =>
   refine Ag (by unfold execOp;rw[ho]) (v:=.bool ao.isNone) (w':=w) ?_ ⟨F,if ao.isNone then 0 else 1,0,?_,?_⟩
   .have e1:a.eval (.const (.slice none 0 0))=.slice none 0 0:=rfl
    rw[hax,e1]
    have g1:(eqGuard .eql t x (.const (.slice none 0 0)) (.slice ao n c) (.slice none 0 0)).run P w=.ok () w:=by simp[eqGuard]
    rw[Sem.run_bind,g1]
    simp only[Result.andThen_ok]
    have e:Op.equal t (.slice ao n c) (.slice none 0 0)=Op.equalIn (9999+1) t (.slice ao n c) (.slice none 0 0):=rfl
    have h2:(Op.equal t (.slice ao n c) (.slice none 0 0)).run P w=.ok ao.isNone w:=by
     rw[e]
     exact J5 hT 9999 ao n c w
    show (do pure (.bool (<- Op.equal t (.slice ao n c) (.slice none 0 0))):Sem Value).run P w=_
    rw[Sem.run_bind,h2]
    rfl
   .exact After.IQ hS (Ext.refl hS.rM) d jA ⟨by simp,by simp,λh=>by omega⟩ λk h=>by obtain⟨h,_⟩:=h;omega
   .cases ao with
    | some ad=>exact .d (.sc rfl) rfl
    | none =>
     have he:es=[]:=by
      cases es with
      | nil=>rfl
      | cons y r =>
       have h1:=hsz y uZ
       have h2:=hpos y uZ
       have h3:0<n*sz:=Nat.mul_pos (by rw[<- hn];simp) (by omega)
       obtain⟨ad,h4,_⟩:=ha 0 h3
       cases h4
     rw[he]
     exact .d (.sc rfl) rfl
 | @box t x v hx hp =>
  have hx':=hev x;rw[hx] at hx'
  obtain⟨s1,s2,s3⟩:=F7 hx' hp
  refine Ag (by unfold execOp;rw[ho]) (v:=.pointer (some ⟨w.heap.size,0,none⟩)) (w':=w.alloc (.cells (a.eval x).cells t)) ?_ ⟨F,w.heap.size,0,?_,.ptr⟩
  .simp[Instr.box,newVar,newRow]
  .exact Xt hS d t (a.eval x).cells.toList v.cells s1 s2 s3 rfl rfl rfl (by rw[Array.toArray_toList];rfl)
 | @make t e sz eF n cp x y k k' z zs hx hy hT hz hc hn hb hm =>
  have hx':=hev x;rw[hx] at hx'
  have hy':=hev y;rw[hy] at hy'
  obtain⟨v,w',b,h1,h2,h3,_⟩:=SN (P:=P) (k:=k) (k':=k') hS hT hz hc hn hb hm d
  exact Ag (by unfold execOp;rw[ho]) (by rw[iL hx',iL hy'];exact h1) ⟨F,b,0,h2,h3⟩
 | @app t e sz eF s x xs ats ha hs hx hT hsz hb hm =>
  obtain⟨t2,e2,rfl,hu2⟩:=ha
  have hs':=hev s;rw[hs] at hs'
  obtain⟨v,w',b,c,h1,h2,h3,_⟩:=ac5 (ty:=o.type) hS hT d hs' (IV hx (hev x)) hsz hb hm
  exact vk hT.u hu2 ho h1 ⟨F,b,c,h2,h3⟩
 | @lit t e sz eF len parts xs hT hl hn QG hpos hx hsz =>
  obtain⟨v,w',b,h1,h2,h3,_⟩:=Xu hS hev hT hl hn QG hpos hx hsz d
  exact Ag (by unfold execOp;rw[ho]) h1 ⟨F,b,0,h2,h3⟩
 | @ax1 t tn e sz eF n k s x ats ha htn hs hx hT h0 hb hm =>
  subst ha
  have hs':=hev s;rw[hs] at hs'
  have hx':=hev x;rw[hx] at hx'
  have hx':=iL hx'
  generalize has:a.eval s=as at hs'
  obtain⟨i,z,hi,hz,z1,z2,z3⟩:=hT.parts
  cases hs' with
  | @mt ao =>
   have hold:(Builtin.firstCells i.size 0 (.slice ao 0 0)).run P w.drew=.ok #[] w.drew:=by cases ao <;> simp[Builtin.firstCells,loadCells,loadCellsFrom]
   have hnb:n*i.bytes<=140737488355328:=by rw[z3];exact hb
   have hrun:=Lib.run_append_grow_zeros (P:=P) w t tn o.type e i z .i64 k hT.u htn.u hi hz ao 0 0 [] hold n h0 (by rw[z2];exact hT.pos) (by omega) (by omega) (by omega) (growslice_fits (by omega) (by rw[Nat.zero_add];exact hnb))
   have hge:=grownCap_ge w (0+n) 0 e
   generalize grownCap w (0+n) 0 e=G at hrun hge
   have hcells:∀ m,∀ u,u ∈ (Builtin.zeroCells z.cells m).toList->u.oneCell' = true:=Ba λu hu=>hT.one hi hz u hu
   rw[Nat.zero_add] at hrun
   refine QH ho (by rw[has,hx'];exact hrun) ⟨F,w.heap.size,G,After.IQ hS (Ext.alloc (w':=w.drew.alloc _) hS.rM _ rfl rfl rfl rfl) d _ ⟨Nat.zero_le _,by simp,λ_=>⟨(#[]++Builtin.zeroCells z.cells n++Builtin.zeroCells z.cells (G-n)).toList,?_,?_,?_,λi d u hd _=>by simp at hd⟩⟩ ?_,.bF (λ_=>rfl) (by omega)⟩
   .rw[Array.toArray_toList];exact A8 (w:=w) rfl
   .simp only[Array.length_toList,Array.size_append,Array.size_empty,Builtin.zeroCells,Array.size_map,Array.size_range,z1]
    rw[Nat.zero_add,<- Nat.add_mul];congr 1;omega
   .intro u hu
    simp only[Array.toList_append,List.mem_append] at hu
    rcases hu with (hu|hu)|hu
    .simp at hu
    .exact hcells _ u hu
    .exact hcells _ u hu
   .rintro k ⟨_,rfl⟩
    refine⟨Nat.le_refl _,?_⟩
    cases hf:F w.heap.size with
    | none=>rfl
    | some ob=>have:=hS.rM.lt hf;omega
 | @Xr f args ats nR n e sz caps args' es hf ha hs =>
  have hf':=hev f;rw[hf] at hf'
  generalize YQ:a.eval f=af at hf'
  cases hf' with
  | @fn _ us _ hl hr =>
   have hvs:kU F (args.toList.map a.eval++us) args':=qw (wJ (oZ hev _) ⟨hl,hr⟩) ha
   have hc:=hs.2 F w _ hS.rM hvs
   unfold execOp;rw[ho]
   have e1:(args.map a.eval++us.toArray)=(args.toList.map a.eval++us).toArray:=by simp
   simp only[resolve,YQ,Deferred.ofValue,Sem.run_bind,Sem.run_pure,Result.andThen_ok,invoke,Array.empty_append,e1,mO hs.1]
   refine hc.mono λx w' ⟨v,F',b,c,he,hx,hv,hok,hfr⟩=>⟨v,he,F',b,c,After.IQ hS hx d _ hok hfr,?_⟩
   cases hv with
   | bF h1 h2=>exact .bF h1 h2
 | @ac1 f args ats nR n e e2 sz caps args' rows hf ha hs =>
  have hf':=hev f;rw[hf] at hf'
  generalize YQ:a.eval f=af at hf'
  cases hf' with
  | @fn _ us _ hl hr =>
   have hvs:kU F (args.toList.map a.eval++us) args':=qw (wJ (oZ hev _) ⟨hl,hr⟩) ha
   have hc:=hs.2 F w _ hS.rM hvs
   unfold execOp;rw[ho]
   have e1:(args.map a.eval++us.toArray)=(args.toList.map a.eval++us).toArray:=by simp
   simp only[resolve,YQ,Deferred.ofValue,Sem.run_bind,Sem.run_pure,Result.andThen_ok,invoke,Array.empty_append,e1,mO hs.1]
   refine hc.mono λx w' ⟨v,F',b,c,bs,he,hx,hv,hbl,hok,hfr⟩=>⟨v,he,F',b,JZ (c::bs),?_,?_⟩
   .rw[Xl,<- hbl,show YL bs.length (c::bs).tail=bs from YM bs]
    exact After.IQ hS hx d _ hok hfr
   .rw[Xl]
    cases hv with
    | bF h1 h2=>exact .bF h1 h2
theorem After.dead {F':Hp}{w':World}{d id:Nat}{r:Option iE}(h:After F M w F' (upd (upd M id none) d r) w'):After F M w F' (upd (upd M id (some jA)) d r) w':=by
 have part:∀ j bl,(upd (upd M id (some jA)) d r) j=some bl->bl=jA \/ (upd (upd M id none) d r) j=some bl:=λj bl hj=>by
  unfold upd at hj ⊢
  by_cases h1:j=d
  .simp only[h1,if_true] at hj ⊢;exact .inr hj
  .by_cases h2:j=id
   .simp only[h2] at hj h1 ⊢
    simp only[h1,if_false,if_true] at hj
    cases hj;exact .inl rfl
   .simp only[h1,h2,if_false] at hj ⊢;exact .inr hj
 have no:∀ k,¬ jA.owns k:=λk h=>by obtain⟨h,_⟩:=h;omega
 refine⟨h.grow,h.le,⟨h.gU.rM,λj bl hj=>?_,λj bl k hj ho=>?_,λj j' bl GH k hj hj' ho ho'=>?_⟩,h.new,λk ⟨j,bl,hj,ho⟩=>?_⟩
 .rcases part j bl hj with rfl|hj
  .exact⟨by simp,by simp,λh=>by omega⟩
  .exact h.gU.own j bl hj
 .rcases part j bl hj with rfl|hj
  .exact absurd ho (no k)
  .exact h.gU.apart j bl k hj ho
 .rcases part j bl hj with rfl|hj
  .exact absurd ho (no k)
  .rcases part j' GH hj' with rfl|hj'
   .exact absurd ho' (no k)
   .exact h.gU.inj j j' bl GH k hj hj' ho ho'
 .rcases part j bl hj with rfl|hj
  .exact absurd ho (no k)
  .exact h.kM k ⟨j,bl,hj,ho⟩
theorem GU.sound {o':Oper}{op:Op}{d id:Nat}{g:Nat->Nat->V × Option iE}(ho:o'.op=op)(hp:GU P ev M d id op g)(hd:M d=none \/ d=id)(hev:∀ x,dm F (a.eval x) (ev x))(hS:wI F M w) :
  Good P ((execOp a.eval o').run P w) λu w'=>∃ F' b c,After F M w F' (upd (upd M id (some jA)) d (g b c).2) w' /\ dm F' u (g b c).1:=by
 cases hp with
 | @own t e sz eF b n c s x es xs ats ha hs hM hn hx hT hsz hb hm =>
  obtain⟨t2,e2,rfl,hu2⟩:=ha
  have hs':=hev s;rw[hs] at hs'
  obtain⟨v,w',b',c',h1,h2,h3,_⟩:=Ci (ty:=o'.type) hS hT hs' hn hM hd (IV hx (hev x)) hsz hb hm
  exact vk hT.u hu2 ho h1 ⟨F,b',c',h2.dead,h3⟩
 | @Vx t e sz eF b n c s x es xs ats ha hs hM hn hx hT hsz hb hm =>
  obtain⟨t2,e2,rfl,hu2⟩:=ha
  have hs':=hev s;rw[hs] at hs'
  obtain⟨v,w',b',c',h1,h2,h3,h4⟩:=Ci (ty:=o'.type) hS hT hs' hn hM hd (IV hx (hev x)) hsz hb hm
  obtain⟨F',f1,f2⟩:=GY h2 h3 (by rw[jG,hn]) h4
  exact vk hT.u hu2 ho h1 ⟨F',b',c',f1.dead,f2⟩
 | @ownB t e sz eF b o n c s x es xs ats ha hs hM hn hx hT hsz hb hm =>
  obtain⟨t2,e2,rfl,hu2⟩:=ha
  have hs':=hev s;rw[hs] at hs'
  obtain⟨v,w',b',k,h1,h2,h3,_⟩:=La (ty:=o'.type) hS hT hs' hn hM hd (IV hx (hev x)) hsz hb hm
  exact vk hT.u hu2 ho h1 ⟨F,b',k,h2.dead,h3⟩
theorem Cj {t n:Nat}(hT:(P.info? t).map (·.size)=some n){b off ty:Nat}{cs:List Value}(hh:w.heap[b]? = some (.cells cs.toArray ty (0,0)))(v:Value)(hl:v.cells.toList.length=n)(h1:∀ u,u ∈ v.cells.toList->u.oneCell' = true)
  (hn:off+n<=cs.length):(storeVar t ⟨b,off,none⟩ v).run P w=.ok () (w.setRow b (cs.take off++v.cells.toList++cs.drop (off+n)).toArray):=by
 cases hi:P.info? t with
 | none=>simp[hi] at hT
 | some i =>
  simp only[hi,Option.map_some,Option.some.injEq] at hT
  have hst:=run_storeCells_at P b off ty v.cells.toList 0 cs.toArray w hh (by rw[hl];simpa using hn) h1
  simp only[Nat.add_zero,hl] at hst
  have hsz:v.cells.size=i.size:=by rw[hT,<- hl,Array.length_toList]
  simp[storeVar,sizeOf,typeInfo,hi,hsz,hst]
theorem After.Bj (hS:wI F M w){id b ty:Nat}{cs cs':List Value}{blk jE:iE}(hM:M id=some blk)(hb:blk.owns b)(hown:∀ k,jE.owns k->k=b)(hh:w.heap[b]? = some (.cells cs.toArray ty (0,0)))
  (hok:∀ w':World,w'.heap[b]? = some (.cells cs'.toArray ty (0,0))->vg F w' jE):After F M w F (upd M id (some jE)) (w.setRow b cs'.toArray):=by
 have hheap:=setRow_heap w b cs.toArray cs'.toArray ty (0,0) hh
 have hother:=λk (hk:k≠b)=>setRow_other w b k cs'.toArray hk
 have hFb:F b=none:=hS.apart id _ b hM hb
 have part:∀ j bl,(upd M id (some jE)) j=some bl->(j=id/\bl=jE) \/ (j≠id/\M j=some bl):=λj bl h=>by
  unfold upd at h
  split at h
  .rename_i e1;cases h;exact .inl ⟨e1,rfl⟩
  .rename_i e1;exact .inr ⟨e1,h⟩
 refine⟨⟨rfl,rfl,rfl,by simp,λk _ hk=>hother k λe1=>hk (e1 ▸ ⟨id,_,hM,hb⟩)⟩,Hp.le.refl F,⟨λk o hk=>?_,λj bl h=>?_,λj bl k h ho=>?_,λj j' bl GH k h h' ho ho'=>?_⟩,λk x y=>absurd x y,λk ⟨j,bl,h,ho⟩=>?_⟩
 .rw[hother k (λe1=>by subst e1;rw[hFb] at hk;cases hk)]
  exact hS.rM k o hk
 .rcases part j bl h with ⟨_,rfl⟩|⟨nj,hq⟩
  .exact hok _ hheap
  .exact (hS.own j bl hq).keep (Hp.le.refl F) λk hk=>hother k λe1=>nj (hS.inj j id _ _ k hq hM hk (e1 ▸ hb))
 .rcases part j bl h with ⟨_,rfl⟩|⟨_,h⟩
  .rw[hown k ho];exact hFb
  .exact hS.apart j bl k h ho
 .rcases part j bl h with ⟨e1,f1⟩|⟨n1,q1⟩ <;> rcases part j' GH h' with ⟨e2,f2⟩|⟨n2,q2⟩
  .rw[e1,e2]
  .rw[f1] at ho
   have:=hown k ho
   subst this
   exact absurd (hS.inj id j' _ _ k hM q2 hb ho') (Ne.symm n2)
  .rw[f2] at ho'
   have:=hown k ho'
   subst this
   exact absurd (hS.inj j id _ _ k q1 hM ho hb) n1
  .exact hS.inj j j' bl GH k q1 q2 ho ho'
 .rcases part j bl h with ⟨_,rfl⟩|⟨_,h⟩
  .exact .inr ⟨id,_,hM,hown k ho ▸ hb⟩
  .exact .inr ⟨j,bl,h,ho⟩
theorem Vz {o:Oper}{s:Sem Unit}{w':World}{R:Value->World->Prop}(ho:execOp a.eval o=(do s;pure .skip))(hr:s.run P w=.ok () w')(h:R undef w'):Good P ((execOp a.eval o).run P w) R:=by
 rw[ho,Sem.run_bind,hr]
 exact h
theorem qX {α:Type}{A B:List α}{off n:Nat}(hl:B.length=n)(hn:off+n<=A.length)(i:Nat) :
  (A.take off++B++A.drop (off+n))[i]? = if i<off then A[i]? else if i<off+n then B[i-off]? else A[i]?:=by
 have ht:(A.take off).length=off:=by rw[List.length_take];omega
 rw[List.append_assoc,List.getElem?_append,ht]
 by_cases h1:i<off
 .rw[if_pos h1,if_pos h1,List.getElem?_take,if_pos h1]
 .rw[if_neg h1,if_neg h1,List.getElem?_append,hl]
  by_cases h2:i<off+n
  .rw[if_pos h2,if_pos (by omega)]
  .rw[if_neg h2,if_neg (by omega),List.getElem?_drop]
   congr 1;omega
theorem SQ {es : List D} {i sz : Nat} {d : D} (g1 : ∀ z, z ∈ es -> z.cells.length = sz) (hset : ∀ z, z ∈ es.set i d -> z.cells.length = sz) (hl : d.cells.length = sz) (hi : i < es.length) :
  (es.set i d).flatMap D.cells=(es.flatMap D.cells).take (i*sz)++d.cells++(es.flatMap D.cells).drop (i*sz+sz):=by
 have hfl:(es.flatMap D.cells).length=es.length*sz:=flat_length g1
 have hiz:i*sz+sz<=es.length*sz:=by
  have:(i+1)*sz<=es.length*sz:=Nat.mul_le_mul_right _ (by omega)
  rw[Nat.add_mul] at this;omega
 apply List.ext_getElem?
 intro j
 rw[qX hl (by omega)]
 have hsz0:0<sz \/ sz=0:=by omega
 rcases hsz0 with hsz0|hsz0
 .have hq : j / sz * sz + j % sz = j := by rw[Nat.mul_comm]; exact Nat.div_add_mod j sz
  have hmod:=Nat.mod_lt j hsz0
  by_cases hlt:j / sz<es.length
  .have e1 : es[j / sz]? = some es[j / sz] := lu hlt
   have f1:=flat_get g1 e1 (j % sz) hmod
   rw[hq] at f1
   have e2:(es.set i d)[j / sz]? = some (if i=j / sz then d else es[j / sz]):=by
    rw[List.getElem?_set]
    by_cases hij:i=j / sz
    .rw[if_pos hij,if_pos hij,if_pos (by omega)]
    .rw[if_neg hij,if_neg hij,e1]
   have f2:=flat_get hset e2 (j % sz) hmod
   rw[hq] at f2
   rw[f2]
   by_cases hij:i=j / sz
   .have hji:j=i*sz+j % sz:=by rw[hij];exact hq.symm
    rw[if_pos hij,if_neg (by omega),if_pos (by omega)]
    congr 1;omega
   .rw[if_neg hij, <- f1]
    by_cases hlt2:j<i*sz
    .rw[if_pos hlt2]
    .have:i*sz+sz<=j:=by
      have h1:i<j / sz:=by
       rcases Nat.lt_trichotomy i (j / sz) with h|h|h
       .exact h
       .exact absurd h hij
       .exfalso
        have:(j / sz+1)*sz<=i*sz:=Nat.mul_le_mul_right _ h
        rw[Nat.add_mul] at this;omega
      have:(i+1)*sz<=j / sz*sz:=Nat.mul_le_mul_right _ h1
      rw[Nat.add_mul] at this;omega
     rw[if_neg hlt2,if_neg (by omega)]
  .have hge:es.length*sz<=j:=by
    have:es.length*sz<=j / sz*sz:=Nat.mul_le_mul_right _ (by omega)
    omega
   rw[List.getElem?_eq_none (by rw[flat_length hset,List.length_set];exact hge),if_neg (by omega),if_neg (by omega),List.getElem?_eq_none (by rw[hfl];exact hge)]
 .subst hsz0
  rw[List.getElem?_eq_none (by rw[flat_length hset];simp),Nat.mul_zero,if_neg (by omega),if_neg (by omega),List.getElem?_eq_none (by rw[hfl];simp)]
theorem yg.sound {o : Oper} {op : Op} {M' : Mem} (ho : o.op = op) (hp : yg P ev M op M') (hev : ∀ x, dm F (a.eval x) (ev x)) (hS : wI F M w) :
  Good P ((execOp a.eval o).run P w) λ_ w'=>After F M w F M' w':=by
 cases hp with
 | @box x y t n id b off ty cells v hx hy hpl hM hT hl hn =>
  have hx':=hev x;rw[hx] at hx'
  have hy':=hev y;rw[hy] at hy'
  generalize hax:a.eval x=ax at hx'
  cases hx'
  obtain⟨cs,hh,hcl,h1,hr⟩:=hS.own id _ hM
  obtain⟨s1,s2,s3⟩:=F7 hy' hpl
  have hvl:(a.eval y).cells.toList.length=n:=by rw[s1,hl]
  have hrun:=Cj (P:=P) hT hh (off:=off) (a.eval y) hvl s2 (by omega)
  refine Vz (by unfold execOp;rw[ho]) (w':=w.setRow b (cs.take off++(a.eval y).cells.toList++cs.drop (off+n)).toArray) ?_ (After.Bj hS hM rfl (λk hk=>hk) hh λw' hw'=>?_)
  .simp only[hax,Instr.storeAt,Instr.sureAddr,Sem.run_bind,Sem.run_pure,Result.andThen_ok,hrun]
  .refine⟨_,hw',by simp only[jG,List.length_take,List.length_drop];omega,λu hu=>?_,λi c u hc hu=>?_⟩
   .simp only[List.mem_append] at hu
    rcases hu with (hu|hu)|hu
    .exact h1 u (List.mem_of_mem_take hu)
    .exact s2 u hu
    .exact h1 u (List.mem_of_mem_drop hu)
   .rw[qX hl hn] at hc
    rw[qX hvl (by omega)] at hu
    split at hc
    .rename_i h2;rw[if_pos h2] at hu;exact hr i c u hc hu
    .rename_i h2
     rw[if_neg h2] at hu
     split at hc
     .rename_i h3;rw[if_pos h3] at hu;exact s3 _ c u hc hu
     .rename_i h3;rw[if_neg h3] at hu;exact hr i c u hc hu
 | @row x y t id b sz i c e es d hx hy hM hT hl hi =>
  have hx':=hev x;rw[hx] at hx'
  have hy':=hy F _ (hev y)
  generalize hax:a.eval x=ax at hx'
  cases hx'
  obtain⟨g0,g1,g2⟩:=hS.own id _ hM
  have hc0:0<c:=by omega
  obtain⟨cs,hh,hcl,h1,hr⟩:=g2 hc0
  obtain⟨s1,s2,s3⟩:=IL hy'
  have hvl:(a.eval y).cells.toList.length=sz:=by rw[s1,hl]
  have hbd:i*sz+sz<=cs.length:=by
   have:(i+1)*sz<=c*sz:=Nat.mul_le_mul_right _ (by omega)
   rw[Nat.add_mul] at this;omega
  have hrun:=Cj (P:=P) hT hh (off:=i*sz) (a.eval y) hvl s2 hbd
  have hset:∀ z,z ∈ es.set i d->z.cells.length=sz:=λz hz=>by
   rcases List.mem_or_eq_of_mem_set hz with hz|rfl
   .exact g1 z hz
   .exact hl
  have ac6:=SQ g1 hset hl hi
  refine Vz (by unfold execOp;rw[ho]) (w':=w.setRow b (cs.take (i*sz)++(a.eval y).cells.toList++cs.drop (i*sz+sz)).toArray) ?_ (After.Bj hS hM ⟨hc0,rfl⟩ (λk hk=>hk.2) hh λw' hw'=>?_)
  .simp only[hax,Instr.storeAt,Instr.sureAddr,Sem.run_bind,Sem.run_pure,Result.andThen_ok,Nat.add_zero,hrun]
  .refine⟨by rw[List.length_set];exact g0,hset,λ_=>⟨_,hw',by simp only[jG,List.length_take,List.length_drop];omega,λu hu=>?_,λj x u hxx hu=>?_⟩⟩
   .simp only[List.mem_append] at hu
    rcases hu with (hu|hu)|hu
    .exact h1 u (List.mem_of_mem_take hu)
    .exact s2 u hu
    .exact h1 u (List.mem_of_mem_drop hu)
   .have hfl:(es.flatMap D.cells).length=es.length*sz:=flat_length g1
    have hiz:i*sz+sz<=es.length*sz:=by
     have:(i+1)*sz<=es.length*sz:=Nat.mul_le_mul_right _ (by omega)
     rw[Nat.add_mul] at this;omega
    rw[ac6,qX hl (by omega)] at hxx
    rw[qX hvl hbd] at hu
    split at hxx
    .rename_i h2;rw[if_pos h2] at hu;exact hr j x u hxx hu
    .rename_i h2
     rw[if_neg h2] at hu
     split at hxx
     .rename_i h3;rw[if_pos h3] at hu;exact s3 _ x u hxx hu
     .rename_i h3;rw[if_neg h3] at hu;exact hr j x u hxx hu
 | @ax2 x y t id b sz i j n c e es d el el2 hx hy hM hT hl hel hj he =>
  have hx':=hev x;rw[hx] at hx'
  have hy':=hy F _ (hev y)
  generalize hax:a.eval x=ax at hx'
  cases hx'
  obtain⟨g0,g1,g2⟩:=hS.own id _ hM
  have hi:i<es.length:=(List.getElem?_eq_some_iff.1 hel).1
  have hc0:0<c:=by omega
  obtain⟨cs,hh,hcl,h1,hr⟩:=g2 hc0
  obtain⟨s1,s2,s3⟩:=IL hy'
  have hvl:(a.eval y).cells.toList.length=n:=by rw[s1,hl]
  have hell:el.cells.length=sz:=g1 el (List.mem_of_getElem? hel)
  have hl2:el2.cells.length=sz:=by rw[he,jG,jG,List.length_take,List.length_drop,hl,hell];omega
  have hbd0:i*sz+sz<=cs.length:=by
   have:(i+1)*sz<=c*sz:=Nat.mul_le_mul_right _ (by omega)
   rw[Nat.add_mul] at this;omega
  have hbd:i*sz+j+n<=cs.length:=by omega
  have hrun:=Cj (P:=P) hT hh (off:=i*sz+j) (a.eval y) hvl s2 hbd
  have hset:∀ z,z ∈ es.set i el2->z.cells.length=sz:=λz hz=>by
   rcases List.mem_or_eq_of_mem_set hz with hz|rfl
   .exact g1 z hz
   .exact hl2
  have ac6:=SQ g1 hset hl2 hi
  refine Vz (by unfold execOp;rw[ho]) (w':=w.setRow b (cs.take (i*sz+j)++(a.eval y).cells.toList++cs.drop (i*sz+j+n)).toArray) ?_ (After.Bj hS hM ⟨hc0,rfl⟩ (λk hk=>hk.2) hh λw' hw'=>?_)
  .simp only[hax,Instr.storeAt,Instr.sureAddr,Sem.run_bind,Sem.run_pure,Result.andThen_ok,hrun]
  .refine⟨by rw[List.length_set];exact g0,hset,λ_=>⟨_,hw',by simp only[jG,List.length_take,List.length_drop];omega,λu hu=>?_,λk x u hxx hu=>?_⟩⟩
   .simp only[List.mem_append] at hu
    rcases hu with (hu|hu)|hu
    .exact h1 u (List.mem_of_mem_take hu)
    .exact s2 u hu
    .exact h1 u (List.mem_of_mem_drop hu)
   .have hfl:(es.flatMap D.cells).length=es.length*sz:=flat_length g1
    have hiz:i*sz+sz<=es.length*sz:=by
     have:(i+1)*sz<=es.length*sz:=Nat.mul_le_mul_right _ (by omega)
     rw[Nat.add_mul] at this;omega
    rw[ac6,qX hl2 (by omega)] at hxx
    rw[qX hvl hbd] at hu
    by_cases k1:k<i*sz
    .rw[if_pos k1] at hxx
     rw[if_pos (by omega)] at hu
     exact hr k x u hxx hu
    .rw[if_neg k1] at hxx
     by_cases k2:k<i*sz+sz
     .rw[if_pos k2,he,qX hl (by omega)] at hxx
      by_cases k3:k-i*sz<j
      .rw[if_pos k3] at hxx
       rw[if_pos (by omega)] at hu
       refine hr k x u ?_ hu
       have:=flat_get g1 hel (k-i*sz) (by omega)
       rw[show i*sz+(k-i*sz)=k by omega] at this
       rw[this];exact hxx
      .rw[if_neg k3] at hxx
       rw[if_neg (by omega)] at hu
       by_cases k4:k-i*sz<j+n
       .rw[if_pos k4] at hxx
        rw[if_pos (by omega),show k-(i*sz+j)=k-i*sz-j by omega] at hu
        exact s3 _ x u hxx hu
       .rw[if_neg k4] at hxx
        rw[if_neg (by omega)] at hu
        refine hr k x u ?_ hu
        have:=flat_get g1 hel (k-i*sz) (by omega)
        rw[show i*sz+(k-i*sz)=k by omega] at this
        rw[this];exact hxx
     .rw[if_neg k2] at hxx
      rw[if_neg (by omega),if_neg (by omega)] at hu
      exact hr k x u hxx hu
end
section
variable {P:Program}{E:Env}{s:S}{a:Act}{F:Hp}{w:World}
theorem Run.qC (h:Run E F s a w){F':Hp}{M':Mem}{w':World}(ha:After F s.M w F' M' w'){dst:Option Nat}(hd:oV E.n dst){u:Value}{v:V}(hv:dm F' u v) :
  Run E F' ((⟨s.ρ,M'⟩:S).put dst v) (a.put dst u) w':=by
 obtain⟨h1,h2,h3⟩:=OH h ha.le hd hv
 have e1:((⟨s.ρ,M'⟩:S).put dst v).ρ=(s.put dst v).ρ:=by cases dst <;> rfl
 refine⟨by rw[S.xJ];exact ha.gU,h.grow.trans ha.grow λi hi ⟨id,blk,hm,ho⟩=>?_,h.f0.trans ha.le,λk hk hn=>?_,λid blk k hm ho=>?_,h1,h2,by rw[e1];exact h3⟩
 .exact (h.kM id blk i hm ho).resolve_left (by omega)
 .cases hf:F k with
  | none =>
   rcases ha.new k hf hn with h4|⟨id,blk,hm,ho⟩
   .exact .inl (Nat.le_trans h.grow.size h4)
   .exact h.kM id blk k hm ho
  | some o=>exact h.yc k hk (by rw[hf];simp)
 .rw[S.xJ] at hm
  rcases ha.kM k ⟨id,blk,hm,ho⟩ with h4|⟨id',jE,hm',ho'⟩
  .exact .inl (Nat.le_trans h.grow.size h4)
  .exact h.kM id' jE k hm' ho'
theorem Cm {M Mc:Mem}(h:wI F M w)(hc:∀ id blk,Mc id=some blk->M id=some blk):wI F Mc w :=
 ⟨h.rM,λid blk hm=>h.own id blk (hc id blk hm),λid blk k hm=>h.apart id blk k (hc id blk hm),λi j bi bj k hi hj=>h.inj i j bi bj k (hc i bi hi) (hc j bj hj)⟩
theorem After.over {M Mc DX : Mem} {F' : Hp} {w' : World} (h : wI F M w) (hc : ∀ id blk, Mc id = some blk -> M id = some blk) (hc' : ∀ id, Mc id = none -> DX id = none) (ha : After F Mc w F' DX w') :
    After F M w F' (M.over Mc DX) w':=by
  have sub:∀ k,jM Mc k->jM M k:=λk ⟨id,blk,hm,ho⟩=>⟨id,blk,hc id blk hm,ho⟩
  have part:∀ id blk,(M.over Mc DX) id=some blk->DX id=some blk \/ (Mc id=none/\M id=some blk):=λid blk hm=>by
    unfold Mem.over at hm
    cases hq:Mc id with
    | none=>simp[hq] at hm;exact .inr ⟨rfl,hm⟩
    | some b=>simp[hq] at hm;exact .inl hm
  have far:∀ id blk k,Mc id=none->M id=some blk->blk.owns k->k<w.heap.size/\¬ jM Mc k:=λid blk k hn hm ho =>
    ⟨(h.own id blk hm).lt ho, λ⟨id', jE, hm', ho'⟩ => by
      have:=h.inj id id' _ _ k hm (hc id' jE hm') ho ho'
      subst this
      rw[hn] at hm';cases hm'⟩
  refine⟨ha.grow.mono sub,ha.le,⟨ha.gU.rM,λid blk hm=>?_,λid blk k hm ho=>?_,λi j bi bj k hi hj hoi hoj=>?_⟩,λk p q=>(ha.new k p q).imp (λz=>z) (sub k),λk ⟨id,blk,hm,ho⟩=>?_⟩
  · rcases part id blk hm with hm | ⟨hn, hm⟩
    · exact ha.gU.own id blk hm
    · exact (h.own id blk hm).keep ha.le λk ho=>let ⟨h1,h2⟩:=far id blk k hn hm ho;ha.grow.block k h1 h2
  · rcases part id blk hm with hm | ⟨hn, hm⟩
    · exact ha.gU.apart id blk k hm ho
    · obtain⟨h1, h2⟩:=far id blk k hn hm ho
      cases hf:F' k with
      | none=>rfl
      | some o =>
        rcases ha.new k (h.apart id blk k hm ho) (by rw[hf];simp) with h3|h3
        · omega
        · exact absurd h3 h2
  · rcases part i bi hi with hi | ⟨ni, hi⟩ <;> rcases part j bj hj with hj | ⟨nj, hj⟩
    · exact ha.gU.inj i j bi bj k hi hj hoi hoj
    · obtain⟨h1, h2⟩:=far j bj k nj hj hoj
      rcases ha.kM k ⟨i,bi,hi,hoi⟩ with h3|h3
      · omega
      · exact absurd h3 h2
    · obtain⟨h1, h2⟩:=far i bi k ni hi hoi
      rcases ha.kM k ⟨j,bj,hj,hoj⟩ with h3|h3
      · omega
      · exact absurd h3 h2
    · exact h.inj i j bi bj k hi hj hoi hoj
  · rcases part id blk hm with hm | ⟨hn, hm⟩
    · exact (ha.kM k ⟨id,blk,hm,ho⟩).imp (λz=>z) (sub k)
    · exact .inr ⟨id,blk,hm,ho⟩
theorem VA {M:Mem}(hS:wI F M w){t ty e sz eF:Nat}(hT:bD P t e sz eF){id b n c:Nat}{es xs:List D}{u x:Value}(hu:dm F u (.bF id b n c))(hM:M id=some (.row b c e sz es))(hn:n=es.length)(hx:Rep F x (.sl xs))(hl:xs.length=n)(h0:0<n)
  (hsz:∀ y,y ∈ xs->y.cells.length=sz):∃ w',(Builtin.copy_ #[t,t] ty #[u,x]).run P w=.ok (.int .i64 (n:Int)) w' /\ After F M w F (upd M id (some (.row b c e sz xs))) w':=by
 obtain⟨g0,g1,g2⟩:=hS.own id _ hM
 obtain⟨cs,hh,hcl,h1,hr⟩:=g2 (by omega)
 cases hu with
 | bF ha hnc =>
  rw[ha (by omega)]
  obtain⟨ao,m,cx,rfl⟩:∃ ao m cx,x=.slice ao m cx:=by cases hx;exact⟨_,_,_,rfl⟩
  have hm:m=n:=by cases hx with|sl q=>omega
  subst hm
  obtain⟨ad,news,rfl,k1,k2,k3,k4⟩:=SH hx hS.rM hsz h0 hT.pos
  have hfit:m*sz<=cs.length:=by rw[hcl];exact Nat.mul_le_mul_right _ hnc
  have hst:=run_storeCells_at P b 0 e news 0 cs.toArray w hh (by simp;omega) k3
  simp only[Nat.zero_add] at hst
  have hld:=run_loadCells_list (P:=P) w ad news k2
  obtain⟨i,z,hi,hz,s1,s2,s3⟩:=hT.parts
  refine⟨w.setRow b (cs.take 0++news++cs.drop news.length).toArray,?_,?_⟩
  .have e1:(Builtin.firstCells sz m (.slice (some ad) m cx)).run P w=.ok news.toArray w:=by
    simp[Builtin.firstCells,<- k1,hld]
   simp[Builtin.copy_,run_underlying hT.u,Builtin.lenOf,sizeOf,typeInfo,hi,s2,e1,hst]
   rfl
  .refine After.Bj hS hM ⟨by omega,rfl⟩ (λk hk=>hk.2) hh λw' hw'=>⟨by omega,hsz,λ_=>⟨_,hw',?_,?_,?_⟩⟩
   .simp;omega
   .intro v hv
    simp only[List.take_zero,List.nil_append] at hv
    rcases ul hv with hv|hv
    .exact k3 v hv
    .exact h1 v (List.mem_of_mem_drop hv)
   .intro j d v hd hv
    have hj:j<news.length:=by rw[k1,<- hl,<- flat_length hsz];exact (List.getElem?_eq_some_iff.1 hd).1
    simp only[List.take_zero,List.nil_append] at hv
    rw[List.getElem?_append_left hj] at hv
    exact k4 j d v hd hv
theorem qx.sound {ev:Operand->V}{M M':Mem}{o:Oper}{op:Op}{v:V}(ho:o.op=op)(hp:qx P ev M op v M')(hev:∀ x,dm F (a.eval x) (ev x))(hS:wI F M w) :
  Good P ((execOp a.eval o).run P w) λu w'=>∃ F',After F M w F' M' w' /\ dm F' u v:=by
 cases hp with
 | @mk f args ats nR caps args' res Mc DX hf ha hc hc' hs =>
  have hf':=hev f;rw[hf] at hf'
  generalize YQ:a.eval f=af at hf'
  cases hf' with
  | @fn _ us _ hl hr =>
   have hvs:kU F (args.toList.map a.eval++us) args':=qw (wJ (oZ hev _) ⟨hl,hr⟩) ha
   have hcc:=hs.2 F w _ (Cm hS hc) hvs
   unfold execOp;rw[ho]
   have e1:(args.map a.eval++us.toArray)=(args.toList.map a.eval++us).toArray:=by simp
   simp only[resolve,YQ,Deferred.ofValue,Sem.run_bind,Sem.run_pure,Result.andThen_ok,invoke,Array.empty_append,e1,mO hs.1]
   exact hcc.mono λe w' ⟨v,F',he,hx,hv⟩=>⟨v,he,F',After.over hS hc (λid=>(hc' id).1) hx,hv⟩
 | @inv x name args ats nR rv args' res Mc DX hr ha hc hc' hs =>
  have key:∃ u,dm F u rv/\Sem.run P (do let d <- resolve a.eval { callee:=.invoke x name,args:=args,argTypes:=ats } o.type;invoke d.target d.args) w=.ok (.enter nR (u::args.toList.map a.eval).toArray) w:=by
   cases hr with
   | p hx hm =>
    have h:=hev x;rw[hx] at h
    generalize hax:a.eval x=ax at h
    cases h with
    | JX h=>exact⟨_,h,Xq hax hm hs.1 w⟩
   | v hx hm hT hM =>
    have h:=hev x;rw[hx] at h
    generalize hax:a.eval x=ax at h
    cases h with
    | JX h =>
     cases h with
     | ptr =>
      obtain⟨u,hcell,bj5⟩:=YU hS hM
      exact⟨u,bj5,ab9 hax hm hT hcell hs.1⟩
  obtain⟨u,hu,hrun⟩:=key
  have hvs:kU F (u::args.toList.map a.eval) args':=qw (KY hu (oZ hev _)) ha
  have hcc:=hs.2 F w _ (Cm hS hc) hvs
  unfold execOp;rw[ho]
  rw[hrun]
  exact hcc.mono λe w' ⟨v,F',he,hx,hv⟩=>⟨v,he,F',After.over hS hc (λid=>(hc' id).1) hx,hv⟩
 | @copy t e sz eF id b n c s x es xs ats ha hs hM hn hx hl h0 hT hsz =>
  subst ha
  have hs':=hev s;rw[hs] at hs'
  obtain⟨w',h1,h2⟩:=VA (ty:=o.type) hS hT hs' hM hn (IV hx (hev x)) hl h0 hsz
  unfold execOp;rw[ho]
  simp only[resolve,Sem.run_bind,Sem.run_pure,Result.andThen_ok,invoke,builtin_copy]
  have e1:(#[s,x].map a.eval) = #[a.eval s,a.eval x]:=by simp
  rw[e1,h1]
  exact⟨F,h2,.d (.sc rfl) rfl⟩
theorem OW.sound {m:Nat}{o:Oper}{K:S->Prop}(h:OW P m o K s)(hr:Run E F s a w)(hd:oV E.n o.dst) :
  Good P ((execOp a.eval o).run P w) λu w'=>∃ F' s',Run E F' s' (a.put o.dst u) w' /\ K s':=by
 rcases h with ⟨v,hp,hk⟩|⟨v,hp,hk⟩|⟨d,g,hdd,_,hp,hk⟩|⟨d,id,g,hdd,hmd,hp,hk⟩|⟨hdd,M',hp,hk⟩|⟨_,v,M',hp,hk⟩|⟨_,v,hp,hk⟩
 .have hg:Good P ((execOp a.eval o).run P w) λu w'=>∃ F',Ext F w F' w' /\ dm F' u v:=hp.elim (λhp=>hp.sound rfl hr.eval hr.gU.rM) (λhp=>hp.sound rfl hr.eval hr.gU.rM)
  exact hg.mono λu w' ⟨F',hx,hv⟩=>⟨F',_,hr.QC hx hd hv,hk⟩
 .exact (hp.sound rfl hr.eval hr.gU).mono λu w' ⟨e,hv⟩=>by
   subst e
   exact⟨F,_,hr.QC (Ext.refl hr.gU.rM) hd hv,hk⟩
 .exact (hp.sound rfl hr.eval hr.gU).mono λu w' ⟨F',b,c,ha,hv⟩=>by
   have:=hr.qC ha hd hv
   rw[hdd] at this ⊢
   exact⟨F',_,this,hk b c⟩
 .exact (hp.sound rfl hmd hr.eval hr.gU).mono λu w' ⟨F',b,c,ha,hv⟩=>by
   have:=hr.qC ha hd hv
   rw[hdd] at this ⊢
   exact⟨F',_,this,hk b c⟩
 .exact (hp.sound rfl hr.eval hr.gU).mono λu w' ha=>by
   have:=hr.qC ha hd (u:=u) (v:=.junk) .junk
   rw[hdd] at this ⊢
   exact⟨F,_,this,hk⟩
 .exact (hp.sound rfl hr.eval hr.gU).mono λu w' ⟨F',ha,hv⟩=>⟨F',_,hr.qC ha hd hv,hk⟩
 .exact (hp.sound rfl hr.eval hr.gU).mono λu w' ⟨F',ha,hv⟩=>⟨F',_,hr.qC ha hd hv,hk⟩
theorem OW.mono {m:Nat}{o:Oper}{K K':S->Prop}(h:OW P m o K s)(hk:∀ s,K s->K' s):OW P m o K' s:=by
 rcases h with ⟨v,hp,h⟩|⟨v,hp,h⟩|⟨d,g,e,e',hp,h⟩|⟨d,id,g,e,e',hp,h⟩|⟨e,M',hp,h⟩|⟨e,v,M',hp,h⟩|⟨e,v,hp,h⟩
 .exact .inl ⟨v,hp,hk _ h⟩
 .exact .inr (.inl ⟨v,hp,hk _ h⟩)
 .exact .inr (.inr (.inl ⟨d,g,e,e',hp,λb c=>hk _ (h b c)⟩))
 .exact .inr (.inr (.inr (.inl ⟨d,id,g,e,e',hp,λb c=>hk _ (h b c)⟩)))
 .exact .inr (.inr (.inr (.inr (.inl ⟨e,M',hp,hk _ h⟩))))
 .exact .inr (.inr (.inr (.inr (.inr (.inl ⟨e,v,M',hp,hk _ h⟩)))))
 .exact .inr (.inr (.inr (.inr (.inr (.inr ⟨e,v,hp,hk _ h⟩)))))
def D5 (ops:Array Oper)(s:S)(j:Nat):Option (Option Bool) :=
 match ((ops[j]?).bind (·.dst)).map s.ρ with
 | some (.d (.sc (.bool b)))=>some (some b)
 | some (.jS [])=>some none
 | _=>none
def OG (P:Program)(m:Nat)(ops:Array Oper)(o:Oper)(K:S->Prop)(s:S):Prop :=
 match o.guard with
 | none=>OW P m o K s
 | some (j,want)=>∃ b,D5 ops s j=some b/\((b=some want/\OW P m o K s) \/ (b≠some want/\K (s.put o.dst (.jS []))))
theorem OG.mono {m:Nat}{ops:Array Oper}{o:Oper}{K K':S->Prop}(h:OG P m ops o K s)(hk:∀ s,K s->K' s):OG P m ops o K' s:=by
 unfold OG at *
 cases hg:o.guard with
 | none=>simp only[hg] at h;exact h.mono hk
 | some q =>
  obtain⟨j,want⟩:=q
  simp only[hg] at h
  obtain⟨b,h1,h2⟩:=h
  exact⟨b,h1,h2.imp (λ⟨e,h⟩=>⟨e,h.mono hk⟩) (λ⟨e,h⟩=>⟨e,hk _ h⟩)⟩
theorem Le (b:Bool):(undef:Value)≠.bool b:=by unfold undef;simp
theorem vw {ops:Array Oper}{j:Nat}{b:Option Bool}(hr:Run E F s a w)(h:D5 ops s j=some b):yielded ops a.tmps j=b:=by
 unfold D5 at h
 unfold yielded
 cases hd:(ops[j]?).bind (·.dst) with
 | none=>simp[hd] at h
 | some d =>
  simp only[hd,Option.map_some] at h
  have hs:=hr.slots d
  simp only[Option.bind_some]
  rw[Array.getD_eq_getD_getElem?] at hs
  split at h
  .rename_i b' e
   cases h
   rw[show s.ρ d=.d (.sc (.bool b')) by simpa using e] at hs
   have hs:=iL hs
   cases hq:a.tmps[d]? with
   | none=>rw[hq] at hs;exact absurd hs (Le b')
   | some u=>rw[hq] at hs;simp only[Option.getD_some] at hs;simp[hs]
  .rename_i e
   cases h
   rw[show s.ρ d=.jS [] by simpa using e] at hs
   cases hq:a.tmps[d]? with
   | none=>rfl
   | some u =>
    rw[hq] at hs
    simp only[Option.getD_some] at hs
    cases hs
    rfl
  .cases h
theorem Run.junk (hr:Run E F s a w){dst:Option Nat}(hd:oV E.n dst):Run E F (s.put dst (.jS [])) (a.put dst undef) w :=
 hr.QC (Ext.refl hr.gU.rM) hd (.jS (us:=[]) rfl λi c u hc _=>by simp at hc)
def OL (P:Program)(m:Nat)(ops:Array Oper)(K:S->Prop):List Oper->S->Prop
 | [],s=>K s
 | o::r,s=>OG P m ops o (OL P m ops K r) s
def Jv (E:Env)(Q:Exit->S->Prop)(e:Exit)(a:Act)(w:World):Prop:=∃ F s,Run E F s a w/\Q e s
theorem OL.wpList {m:Nat}{ops:Array Oper}{Q:Exit->S->Prop}:∀ (l:List Oper) {s:S} {a:Act} {F:Hp} {w:World},Run E F s a w->(∀ o,o ∈ l->oV E.n o.dst)->OL P m ops (Q .normal) l s ->
  Go.wpList P ops (Jv E Q) l a w
 | [],s,a,F,w,hr,_,h=>⟨F,s,hr,h⟩
 | o :: r, s, a, F, w, hr, hd, h => by
  have hdo:=hd o uZ
  have hdr:=λx hx=>hd x (List.mem_cons_of_mem _ hx)
  unfold Go.wpList
  unfold OL OG at h
  cases hg:o.guard with
  | none =>
   simp only[hg] at h
   rw[if_pos (by simp[Region.wanted,hg])]
   exact .inl ((h.sound hr hdo).wp λu w' ⟨F',s',hr',hk⟩=>OL.wpList r hr' hdr hk)
  | some q =>
   obtain⟨j,want⟩:=q
   simp only[hg] at h
   obtain⟨b,h1,h2⟩:=h
   have hy:=vw hr h1
   rcases h2 with ⟨e,h2⟩|⟨e,h2⟩
   .rw[if_pos (by simp[Region.wanted,hg,hy,e])]
    exact .inl ((h2.sound hr hdo).wp λu w' ⟨F',s',hr',hk⟩=>OL.wpList r hr' hdr hk)
   .rw[if_neg (by simp[Region.wanted,hg,hy,e])]
    exact OL.wpList r (hr.junk hdo) hdr h2
def AW (P:Program)(E:Env)(c:Code)(Q:Exit->S->Prop)(s:S):Prop :=
 ∀ F a w,Run E F s a w->c.wp P (Jv E Q) a w
def xM (n:Nat)(ops:Array Oper):Bool:=ops.toList.all λo=>match o.dst with|some d=>decide (d<n)|none=>true
theorem xM.spec {n:Nat}{ops:Array Oper}(h:xM n ops=true):∀ o,o ∈ ops.toList->oV n o.dst:=by
 intro o ho
 have:=List.all_eq_true.1 h o ho
 cases hd:o.dst with
 | none=>trivial
 | some d =>
  show d<n
  simpa [hd] using this
theorem AW.region {id:Nat}{ops:Array Oper}{Q:Exit->S->Prop}(hd:xM E.n ops=true)(h:OL P 0 ops (Q .normal) ops.toList s):AW P E (.region id ops false) Q s :=
 λ_ _ _ hr=>wp_region_list (OL.wpList _ hr (xM.spec hd) h)
def Lh (next:S->Prop)(Q:Exit->S->Prop):Exit->S->Prop
 | .normal,s=>next s
 | e,s=>Q e s
theorem AW.seq {x y:Code}{Q:Exit->S->Prop}(h:AW P E x (Lh (AW P E y Q) Q) s):AW P E (.seq x y) Q s:=λF a w hr =>
 wp_seq (wp_mono (h F a w hr) λe a' w' ⟨F',s',hr',hq⟩=>by
  cases e with
  | normal=>exact hq F' a' w' hr'
  | _=>exact⟨F',s',hr',hq⟩)
theorem AW.skip {Q:Exit->S->Prop}(h:Q .normal s):AW P E .skip Q s:=λF a w hr=>wp_skip ⟨F,s,hr,h⟩
theorem AW.exit {id:Nat}{Q:Exit->S->Prop}(h:Q (.exit id) s):AW P E (.exit id) Q s:=λF a w hr=>wp_exit ⟨F,s,hr,h⟩
theorem AW.ret {Q:Exit->S->Prop}(h:Q .ret s):AW P E .ret Q s:=λF a w hr=>wp_ret ⟨F,s,hr,h⟩
def ac7 (id:Nat)(Q:Exit->S->Prop):Exit->S->Prop
 | .exit i,s=>if i=id then Q .normal s else Q (.exit i) s
 | e,s=>Q e s
theorem AW.block {id:Nat}{c:Code}{Q:Exit->S->Prop}(h:AW P E c (ac7 id Q) s):AW P E (.block id c) Q s:=λF a w hr =>
 wp_block (wp_mono (h F a w hr) λe a' w' ⟨F',s',hr',hq⟩=>by
  cases e with
  | exit i =>
   simp only[Exit.inBlock,ac7] at hq ⊢
   by_cases hi:i=id
   .rw[if_pos hi] at hq ⊢;exact⟨F',s',hr',hq⟩
   .rw[if_neg hi] at hq ⊢;exact⟨F',s',hr',hq⟩
  | _=>exact⟨F',s',hr',hq⟩)
theorem AW.cond {c:Operand}{x y:Code}{Q:Exit->S->Prop}{b:Bool}(hc:s.ev c=.d (.sc (.bool b)))(ht:b=true->AW P E x Q s)(hf:b=false->AW P E y Q s):AW P E (.cond c x y) Q s:=λF a w hr=>by
 have hv:=hr.eval c
 rw[hc] at hv
 exact wp_cond_split (iL hv) (λe=>ht e F a w hr) (λe=>hf e F a w hr)
theorem AW.mono {c:Code}{Q Q':Exit->S->Prop}(h:AW P E c Q s)(hq:∀ e s,Q e s->Q' e s):AW P E c Q' s:=λF a w hr =>
 wp_mono (h F a w hr) λe a' w' ⟨F',s',hr',hk⟩=>⟨F',s',hr',hq e s' hk⟩
theorem AW.loop {c:Code}{Q:Exit->S->Prop}(I:Nat->S->Prop)(n:Nat)(h0:I n s)(round:∀ n s,I n s->AW P E c (Lh (λs'=>∃ n',n' < n/\I n' s') Q) s):AW P E (.loop c) Q s:=by
 intro F a w hr b k cs
 have key:∀ n F s a w,Run E F s a w->I n s->∃ e a' w',Jv E Q e a' w' /\ Arrives P (lone (b.at a (.code c::.inLoop c::k)) cs w) b k cs e a' w':=by
  intro n
  induction n using Nat.strongRecOn with
  | _ n ih =>
   intro F s a w hr hi
   obtain⟨e,a₁,w₁,hq,harr⟩:=round n s hi F a w hr b (.inLoop c::k) cs
   cases e with
   | normal =>
    obtain⟨bj6,s₁,aY3,n',hlt,hi₁⟩:=hq
    obtain⟨e₂,a₂,w₂,hq₂,harr₂⟩:=ih n' hlt bj6 s₁ a₁ w₁ aY3 hi₁
    exact⟨e₂,a₂,w₂,hq₂,.of_steps (Steps.trans harr (.one step_inLoop)) harr₂⟩
   | exit id=>exact⟨_,a₁,w₁,hq,.pass (x:=.inLoop c) rfl (λ_ _=>.inl (by simp)) harr⟩
   | goto l=>exact⟨_,a₁,w₁,hq,.pass (x:=.inLoop c) rfl (λ_ _=>.inl (by simp)) harr⟩
   | ret=>exact⟨_,a₁,w₁,hq,.pass (x:=.inLoop c) rfl (λ_ _=>.inl (by simp)) harr⟩
   | panic ch=>exact⟨_,a₁,w₁,hq,.pass (x:=.inLoop c) rfl (λ_ _=>.inl (by simp)) harr⟩
   | outgrown=>exact⟨_,a₁,w₁,hq,.pass (x:=.inLoop c) rfl (λ_ _=>.inl (by simp)) harr⟩
 obtain⟨e,a',w',hq,harr⟩:=key n F s a w hr h0
 exact⟨e,a',w',hq,.of_steps (.one step_loop) harr⟩
end
section
variable {P:Program}{F:Hp}{w:World}{M:Mem}
inductive Xw (P:Program) (s:S):List ResultVar->List V->Prop
 | nil:Xw P s [] []
 | tmp {t:Nat} {x:V} {rs:List ResultVar} {xs:List V} (hx:s.ρ t=x) (h:Xw P s rs xs):Xw P s (.tmp t::rs) (x::xs)
 | dV {t ty n id b off bt : Nat} {cells : List V} {rs : List ResultVar} {xs : List V} (hx : s.ρ t = .ptr id b off) (hM : s.M id = some (.box b bt cells)) (hT : xK P ty n) (hn : off + n <= cells.length) (h : Xw P s rs xs) :
   Xw P s (.cell t ty::rs) (.ag ((cells.drop off).take n)::xs)
 | cellC {t ty id b off bt : Nat} {cells : List V} {v : V} {rs : List ResultVar} {xs : List V} (hx : s.ρ t = .ptr id b off) (hM : s.M id = some (.box b bt cells)) (hT : jr P ty) (hv : cells[off]? = some v) (h : Xw P s rs xs) :
   Xw P s (.cell t ty::rs) (v::xs)
mutual
inductive RO (M Mk:Mem):V->V->Prop
 | le {x y:V} (h:bG x y):RO M Mk x y
 | bF {id b n c e sz:Nat} {es:List D} (hM:M id=some (.row b c e sz es)) (hk:Mk id=none) (hn:n<=es.length):RO M Mk (.bF id b n c) (.d (.sl (es.take n)))
 | ag {xs ys:List V} (h:ROs M Mk xs ys):RO M Mk (.ag xs) (.ag ys)
inductive ROs (M Mk:Mem):List V->List V->Prop
 | nil:ROs M Mk [] []
 | cons {x y:V} {xs ys:List V} (h:RO M Mk x y) (t:ROs M Mk xs ys):ROs M Mk (x::xs) (y::ys)
end
def SS (M Mk:Mem):List V->V->Prop
 | [x],r=>RO M Mk x r
 | xs,r=>∃ ys,ROs M Mk xs ys/\r=.jS ys
def frozenAt (M Mk:Mem)(k:Nat):Prop:=∃ id b c e sz es,M id=some (.row b c e sz es)/\Mk id=none/\0<c/\k=b
open Classical in
noncomputable def lD (F:Hp)(M Mk:Mem)(w:World):Hp:=λk=>if frozenAt M Mk k then w.heap[k]? else F k
theorem yL (h:wI F M w)(Mk:Mem):Hp.le F (lD F M Mk w):=λk o hk=>by
 unfold lD
 split
 .exact h.rM k o hk
 .exact hk
theorem RO.ax4 (h:wI F M w){Mk:Mem}{id b n c e sz:Nat}{es:List D}(hM:M id=some (.row b c e sz es))(hk:Mk id=none)(hn:n<=es.length){u:Value}(hu:dm F u (.bF id b n c)) :
  dm (lD F M Mk w) u (.d (.sl (es.take n))):=by
 obtain⟨g0,g1,g2⟩:=h.own id _ hM
 cases hu with
 | bF ha hnc =>
  refine .d ?_ rfl
  by_cases hc:0<c
  .obtain⟨cs,hh,hl,h1,hr⟩:=g2 hc
   rw[ha hc]
   obtain⟨r,hr'⟩:=uO (es:=es) n
   have hF:lD F M Mk w b=some (.cells cs.toArray e (0,0)):=by
    unfold lD
    rw[if_pos ⟨id,b,c,e,sz,es,hM,hk,hc,rfl⟩]
    exact hh
   refine Rep.row (cs:=cs) hF (by rw[List.length_take];omega) hnc (λx hx=>g1 x (List.mem_of_mem_take hx)) ?_ h1 λi d u hd hu=>?_
   .rw[hl];exact Nat.mul_le_mul_right _ hnc
   .refine (hr i d u ?_ hu).mono (yL h Mk)
    rw[hr',List.getElem?_append_left (List.getElem?_eq_some_iff.1 hd).1]
    exact hd
  .have hc0:c=0:=by omega
   subst hc0
   have hn0:n=0:=by omega
   subst hn0
   exact Rep.nil_
mutual
theorem RO.gU (h:wI F M w){Mk:Mem}{x y:V}(hr:RO M Mk x y){u:Value}(hu:dm F u x):dm (lD F M Mk w) u y:=by
 cases hr with
 | le hle=>exact (hle F u hu).mono (yL h Mk)
 | bF hM hk hn=>exact RO.ax4 h hM hk hn hu
 | @ag xs ys hs =>
  cases hu with
  | @ag us _ hl ho hr =>
   obtain⟨e1,e2⟩:=ROs.gU h hs hl (λi c u=>hr i c u)
   exact .ag e1 ho e2
theorem ROs.gU (h:wI F M w){Mk:Mem}{xs ys:List V}(hr:ROs M Mk xs ys){us:List Value}(hl:us.length=xs.length)(hs:∀ (i:Nat) (c:V) (u:Value),xs[i]? = some c->us[i]? = some u->dm F u c) :
  us.length=ys.length/\∀ (i:Nat) (c:V) (u:Value),ys[i]? = some c->us[i]? = some u->dm (lD F M Mk w) u c:=by
 cases hr with
 | nil=>exact⟨hl,λi c u hc _=>by simp at hc⟩
 | @cons x y xs ys h1 h2 =>
  cases us with
  | nil=>simp at hl
  | cons u us =>
   obtain⟨e1,e2⟩:=ROs.gU h h2 (us:=us) (by simpa using hl) (λi c v hc hv=>hs (i+1) c v (by simpa using hc) (by simpa using hv))
   refine⟨by simpa using e1,λi c v hc hv=>?_⟩
   cases i with
   | zero =>
    simp at hc hv
    subst hc hv
    exact RO.gU h h1 (hs 0 x u rfl rfl)
   | succ i=>exact e2 i c v (by simpa using hc) (by simpa using hv)
end
def FQ (tmps:Array Value):ResultVar->Sem Value
 | .tmp t=>pure (tmps.getD t undef)
 | .cell x t=>do loadVar t (<- asAddr (tmps.getD x undef))
theorem yU (fn:Func)(tmps:Array Value):results fn tmps=(do let vs <- fn.results.mapM (FQ tmps);pure (if h:vs.size=1 then vs[0] else .tuple vs)):=rfl
theorem Lj (a:Addr):asAddr (.pointer (some a))=pure a:=rfl
theorem Xw.run {E:Env}{s:S}{a:Act}(hr:Run E F s a w):∀ {rs:List ResultVar} {xs:List V},Xw P s rs xs->∃ us:List Value,
  (rs.mapM (FQ a.tmps)).run P w=.ok us w/\kU F us xs:=by
 intro rs
 induction rs with
 | nil=>intro xs h;cases h;exact⟨[],rfl,rfl,λi x u hx _=>by simp at hx⟩
 | cons r rs ih =>
  intro xs h
  have fin:∀ (v:Value) (x:V) (us:List Value) (xs:List V),dm F v x->kU F us xs->kU F (v::us) (x::xs):=λv x us xs hv hs=>by
   refine⟨by simp[hs.1],λi c u hc hu=>?_⟩
   cases i with
   | zero=>simp at hc hu;subst hc hu;exact hv
   | succ i=>exact hs.2 i c u (by simpa using hc) (by simpa using hu)
  cases h with
  | @tmp t x _ xs hx h =>
   obtain⟨us,h1,h2⟩:=ih h
   refine⟨a.tmps.getD t undef::us,?_,fin _ _ _ _ (by rw[<- hx];exact hr.slots t) h2⟩
   rw[List.mapM_cons,Sem.run_bind]
   simp only[FQ,Sem.run_bind,Sem.run_pure,Result.andThen_ok]
   rw[h1]
   rfl
  | @dV t ty n id b off bt cells _ xs hx hM hT hn h =>
   obtain⟨us,h1,h2⟩:=ih h
   have hs:=hr.slots t
   rw[hx] at hs
   generalize hat:a.tmps.getD t undef=at_ at hs
   cases hs
   obtain⟨cs,hh,hcl,ho,hrr⟩:=hr.gU.own id _ hM
   have hrun:=um (P:=P) (w:=w) hT ⟨b,off,none⟩ ((cs.drop off).take n) (by rw[List.length_take,List.length_drop];omega) λj u hj=>by
    refine cell_of_box hh off j u ?_
    rw[List.getElem?_take] at hj
    split at hj
    .rwa [List.getElem?_drop] at hj
    .cases hj
   refine⟨.agg ((cs.drop off).take n).toArray::us,?_,fin _ _ _ _ (.ag (by rw[List.length_take,List.length_take,List.length_drop,List.length_drop,hcl]) (λu hu=>ho u (List.mem_of_mem_drop (List.mem_of_mem_take hu))) λi c u hc hu=>?_) h2⟩
   .have e0:(FQ a.tmps (.cell t ty)).run P w=.ok (.agg ((cs.drop off).take n).toArray) w:=by
     simp only[FQ,hat,Lj,Sem.run_bind,Sem.run_pure,Result.andThen_ok,hrun]
    rw[List.mapM_cons,Sem.run_bind,e0]
    simp only[Result.andThen_ok]
    rw[Sem.run_bind,h1]
    rfl
   .rw[List.getElem?_take] at hc hu
    split at hc
    .rename_i hi
     rw[if_pos hi] at hu
     rw[List.getElem?_drop] at hc hu
     exact hrr _ c u hc hu
    .cases hc
  | @cellC t ty id b off bt cells v _ xs hx hM hT hv h =>
   obtain⟨us,h1,h2⟩:=ih h
   have hs:=hr.slots t
   rw[hx] at hs
   generalize hat:a.tmps.getD t undef=at_ at hs
   cases hs
   obtain⟨cs,hh,hcl,ho,hrr⟩:=hr.gU.own id _ hM
   have hol:off<cs.length:=by rw[hcl];exact (List.getElem?_eq_some_iff.1 hv).1
   have hu:=lu hol
   have hrun:=oW (P:=P) hT (cell_of_box hh off 0 cs[off] hu)
   refine⟨cs[off]::us,?_,fin _ _ _ _ (hrr off v _ hv hu) h2⟩
   have e0:(FQ a.tmps (.cell t ty)).run P w=.ok cs[off] w:=by
    simp only[FQ,hat,Lj,Sem.run_bind,Sem.run_pure,Result.andThen_ok]
    exact hrun
   rw[List.mapM_cons,Sem.run_bind,e0]
   simp only[Result.andThen_ok]
   rw[Sem.run_bind,h1]
   rfl
def aP (P:Program)(fn:Func)(Mk:Mem)(res:V):Exit->S->Prop
 | .normal,s|.ret,s=>(∃ xs,Xw P s fn.results.toList xs/\SS s.M Mk xs res)/\∀ id blk,Mk id=some blk->s.M id=some blk
 | _,_=>False
def sW (args:List V):Nat->V:=λt=>args.getD t .junk
theorem eX.intro {f:Nat} {fn:Func} {c:Code} {args:List V} {Mc Mk:Mem} {res:V} (hf:P.funcs[f]? = some fn) (hname:(fn.name == "runtime.NumGoroutine")=false) (hb:fn.body=some c) (hn:args.length<=fn.ntmps)
  (h:∀ E:Env,E.n=fn.ntmps->AW P E c (aP P fn Mk res) ⟨sW args,Mc⟩):eX P f args Mc res Mk:=by
 refine⟨by simp[pX,hf,hname,hb],λF w vals hS hv=>calls_of_wp hf hb ?_⟩
 have hlen:vals.length=args.length:=hv.1
 have hrun:Run ⟨w,F,jM Mc,fn.ntmps⟩ F ⟨sW args,Mc⟩ { tmps:=vals.toArray++Array.replicate (fn.ntmps-vals.toArray.size) undef,defers:=[] } w:=by
  refine⟨hS,Grow.refl _ _,Hp.le.refl F,λk p q=>absurd p q,λid blk k hm ho=>.inr ⟨id,blk,hm,ho⟩,by simp;omega,rfl,λt=>?_⟩
  simp only[sW]
  by_cases ht:t<args.length
  .have h1:args[t]? = some args[t]:=lu ht
   have h2:vals[t]? = some (vals[t]'(by omega)):=lu (by omega)
   rw[ig,h1,Array.getD_eq_getD_getElem?,Array.getElem?_append_left (by simpa [hlen] using ht),List.getElem?_toArray,h2]
   exact hv.2 t _ _ h1 h2
  .rw[ig,List.getElem?_eq_none (by omega)]
   exact .junk
 refine wp_mono (h ⟨w,F,jM Mc,fn.ntmps⟩ rfl F _ w hrun) λe a' w' ⟨F',s',hr,hq⟩=>?_
 have done:∀ (hq:(∃ xs,Xw P s' fn.results.toList xs/\SS s'.M Mk xs res)/\∀ id blk,Mk id=some blk->s'.M id=some blk),
   a'.defers=[]/\∃ v,(results fn a'.tmps).run P w' = .ok v w' /\ ∃ v' F',Ending.returned v=.returned v' /\ After F Mc w F' Mk w' /\ dm F' v' res:=by
  rintro⟨⟨xs,hrv,hro⟩,hk⟩
  obtain⟨us,h1,h2⟩:=hrv.run hr
  refine⟨hr.defers,if h:us.toArray.size=1 then us.toArray[0] else .tuple us.toArray,?_,_,lD F' s'.M Mk w',rfl,?_,?_⟩
  .rw[yU,Sem.run_bind,Array.mapM_eq_mapM_toList,Sem.run_map,h1]
   rfl
  .refine⟨hr.grow,hr.f0.trans (yL hr.gU Mk),⟨λk o hk'=>?_,λid blk hm=>(hr.gU.own id blk (hk id blk hm)).keep (yL hr.gU Mk) λ_ _=>rfl,λid blk k hm ho=>?_,λi j bi bj k hi hj=>hr.gU.inj i j bi bj k (hk i bi hi) (hk j bj hj)⟩,λk p q=>?_,λk ⟨id,blk,hm,ho⟩=>hr.kM id blk k (hk id blk hm) ho⟩
   .unfold lD at hk'
    split at hk'
    .exact hk'
    .exact hr.gU.rM k o hk'
   .unfold lD
    split
    .rename_i hfz
     obtain⟨id',b,c,e,sz,es,hm',hk',hc,rfl⟩:=hfz
     have:=hr.gU.inj id id' _ _ k (hk id blk hm) hm' ho ⟨hc,rfl⟩
     subst this
     rw[hm] at hk';cases hk'
    .exact hr.gU.apart id blk k (hk id blk hm) ho
   .unfold lD at q
    split at q
    .rename_i hfz
     obtain⟨id',b,c,e,sz,es,hm',hk',hc,rfl⟩:=hfz
     exact hr.kM id' _ k hm' ⟨hc,rfl⟩
    .exact hr.yc k p q
  .match xs,us,hro,h2 with
   | [x],[u],hro,h2 =>
    simp only[List.size_toArray,oU,dite_true]
    exact RO.gU hr.gU hro (h2.2 0 x u rfl rfl)
   | [],us,hro,h2 =>
    have hu:us=[]:=IK h2.1
    subst hu
    obtain⟨ys,hys,rfl⟩:=hro
    cases hys
    exact .jS rfl λi c u hc _=>by simp at hc
   | x::y::xs,us,hro,h2 =>
    obtain⟨ys,hys,rfl⟩:=hro
    obtain⟨e1,e2⟩:=ROs.gU hr.gU hys h2.1 h2.2
    have hne:¬ us.toArray.size=1:=by have:=h2.1;simp at this ⊢;omega
    rw[dif_neg hne]
    exact .jS e1 e2
 cases e with
 | normal=>exact done hq
 | ret=>exact done hq
 | _=>exact hq.elim
theorem aj.intro {f:Nat} {fn:Func} {c:Code} {args:List V} {res:V} (hf:P.funcs[f]? = some fn) (hname:(fn.name == "runtime.NumGoroutine")=false) (hb:fn.body=some c) (hn:args.length<=fn.ntmps)
  (h:∀ E:Env,E.n=fn.ntmps->AW P E c (aP P fn jO res) ⟨sW args,jO⟩):aj P f args res:=.ab2 (.intro hf hname hb hn h)
theorem jd.intro {f:Nat} {fn:Func} {c:Code} {args:List V} {n e sz:Nat} {es:List D} (hf:P.funcs[f]? = some fn) (hname:(fn.name == "runtime.NumGoroutine")=false) (hb:fn.body=some c) (hn:args.length<=fn.ntmps) (t:Nat) (hres:fn.results.toList=[.tmp t])
  (h:∀ E:Env,E.n=fn.ntmps->AW P E c (λx s=>(x=.normal \/ x=.ret)/\∃ id b cp es0,s.ρ t=.bF id b n cp/\s.M id=some (.row b cp e sz es0)/\n<=es0.length/\es0.take n=es) ⟨sW args,jO⟩):jd P f args n e sz es:=by
 refine⟨by simp[pX,hf,hname,hb],λF w vals hF hv=>calls_of_wp hf hb ?_⟩
 have hlen:vals.length=args.length:=hv.1
 have hrun:Run ⟨w,F,jM jO,fn.ntmps⟩ F ⟨sW args,jO⟩ { tmps:=vals.toArray++Array.replicate (fn.ntmps-vals.toArray.size) undef,defers:=[] } w:=by
  refine⟨DZ hF,Grow.refl _ _,Hp.le.refl F,λk p q=>absurd p q,λid blk k hm ho=>.inr ⟨id,blk,hm,ho⟩,by simp;omega,rfl,λt=>?_⟩
  simp only[sW]
  by_cases ht:t<args.length
  .have h1:args[t]? = some args[t]:=lu ht
   have h2:vals[t]? = some (vals[t]'(by omega)):=lu (by omega)
   rw[ig,h1,Array.getD_eq_getD_getElem?,Array.getElem?_append_left (by simpa [hlen] using ht),List.getElem?_toArray,h2]
   exact hv.2 t _ _ h1 h2
  .rw[ig,List.getElem?_eq_none (by omega)]
   exact .junk
 refine wp_mono (h ⟨w,F,jM jO,fn.ntmps⟩ rfl F _ w hrun) λx a' w' ⟨F',s',hr,hq,id,b,cp,es0,h1,h2,h3,h4⟩=>?_
 have done:a'.defers=[]/\∃ v,(results fn a'.tmps).run P w' = .ok v w' /\ ∃ v' F' b c,Ending.returned v=.returned v' /\ Ext F w F' w' /\ dm F' v' (.bF 0 b n c)/\vg F' w' (.row b c e sz es)/\∀ k,(iE.row b c e sz es).owns k->w.heap.size<=k/\F' k=none:=by
  refine⟨hr.defers,a'.tmps.getD t undef,?_,a'.tmps.getD t undef,F',b,cp,rfl,⟨hr.grow.mono λi x=>kH i x,hr.f0,hr.gU.rM,λk p q=>(hr.yc k p q).resolve_right (kH k)⟩,?_,?_,λk hk=>?_⟩
  .rw[yU,Sem.run_bind,Array.mapM_eq_mapM_toList,Sem.run_map,hres]
   simp[FQ,List.mapM_cons,List.mapM_nil]
  .have hs:=hr.slots t
   rw[h1] at hs
   generalize a'.tmps.getD t undef=v at hs
   cases hs with
   | bF p q=>exact .bF p q
  .obtain⟨g0,g1,g2⟩:=hr.gU.own id _ h2
   subst h4
   refine⟨by rw[List.length_take];omega,λx hx=>g1 x (List.mem_of_mem_take hx),λhc=>?_⟩
   obtain⟨cs,k1,k2,k3,k4⟩:=g2 hc
   refine⟨cs,k1,k2,k3,λi d u hd hu=>k4 i d u ?_ hu⟩
   obtain⟨r,hr'⟩:=uO (es:=es0) n
   rw[hr',List.getElem?_append_left (List.getElem?_eq_some_iff.1 hd).1]
   exact hd
  .obtain⟨hc,rfl⟩:=hk
   exact⟨(hr.kM id _ k h2 ⟨hc,rfl⟩).resolve_right (kH _),hr.gU.apart id _ k h2 ⟨hc,rfl⟩⟩
 rcases hq with rfl|rfl
 .exact done
 .exact done
end
end Go.AL
namespace Go.AL
open Go Go.BigFrame
section
variable {P:Program}{ev ev':Operand->V}
theorem rO {o:Option Operand}{d b:Nat}(h:Vo ev o d b)(he:∀ x,x ∈ o.toArray.toList->ev' x=ev x):Vo ev' o d b:=by
 cases o with
 | none=>exact h
 | some y=>obtain⟨k,hk⟩:=h;exact⟨k,by rw[he y (by simp)];exact hk⟩
theorem CB {l:List Operand}(he:∀ x,x ∈ l->ev' x=ev x):l.map ev' = l.map ev:=List.map_congr_left he
theorem Pure.congr {op:Op}{v:V}(hp:Pure P ev op v)(he:∀ x,x ∈ op.operands.toList->ev' x=ev x):Pure P ev' op v:=by
 cases hp with
 | move x=>have e:=he x (by simp[Op.operands]);rw[<- e];exact .move x
 | assign x=>have e:=he x (by simp[Op.operands]);rw[<- e];exact .assign x
 | @pick c x y b h =>
  have e1:=he c (by simp[Op.operands]);have e2:=he x (by simp[Op.operands]);have e3:=he y (by simp[Op.operands])
  rw[<- e2,<- e3];exact .pick (by rw[e1];exact h)
 | @nilPtr x _ _ _ h=>exact .nilPtr (by rw[he x (by simp[Op.operands])];exact h)
 | @aM6 x _ _ _ _ _ h=>exact .aM6 (by rw[he x (by simp[Op.operands])];exact h)
 | @Vt x _ h=>exact .Vt (by rw[he x (by simp[Op.operands])];exact h)
 | @QD x _ _ _ _ _ _ h hT=>exact .QD (by rw[he x (by simp[Op.operands])];exact h) hT
 | @av8 x _ _ _ _ _ _ _ _ h hT=>exact .av8 (by rw[he x (by simp[Op.operands])];exact h) hT
 | @QE x _ _ _ _ h hT=>exact .QE (by rw[he x (by simp[Op.operands])];exact h) hT
 | @GN x _ _ _ h hT hn=>exact .GN (by rw[he x (by simp[Op.operands])];exact h) hT hn
 | @GR x _ _ _ h hT=>exact .GR (by rw[he x (by simp[Op.operands])];exact h) hT
 | @ixD x y _ _ _ _ _ _ _ _ hx hy hT h0 hel hsz=>exact .ixD (by rw[he x (by simp[Op.operands])];exact hx) (by rw[he y (by simp[Op.operands])];exact hy) hT h0 hel hsz
 | @Vu x y _ _ _ _ _ _ _ _ _ _ hx hy hT h0 hl=>exact .Vu (by rw[he x (by simp[Op.operands])];exact hx) (by rw[he y (by simp[Op.operands])];exact hy) hT h0 hl
 | @av9 x lo hi _ _ _ _ _ _ _ hx hT hl hh hlh hn hs =>
  exact .av9 (by rw[he x (by simp[Op.operands])];exact hx) hT (rO hl λy hy=>he y (by simp[Op.operands] at hy ⊢;simp[hy])) (rO hh λy hy=>he y (by simp[Op.operands] at hy ⊢;simp[hy])) hlh hn hs
 | @aw0 x lo hi _ _ _ _ hx hT hl hh =>
  exact .aw0 (by rw[he x (by simp[Op.operands])];exact hx) hT (rO hl λy hy=>he y (by simp[Op.operands] at hy ⊢;simp[hy])) (rO hh λy hy=>he y (by simp[Op.operands] at hy ⊢;simp[hy]))
 | @aw1 x hi _ _ _ _ _ _ _ _ _ hx hT hh hn =>
  exact .aw1 (by rw[he x (by simp[Op.operands])];exact hx) hT (rO hh λy hy=>he y (by simp[Op.operands] at hy ⊢;simp[hy])) hn
 | @aw2 x lo _ _ _ _ _ _ _ _ _ _ hx hy hT hl=>exact .aw2 (by rw[he x (by simp[Op.operands])];exact hx) (by rw[he lo (by simp[Op.operands])];exact hy) hT hl
 | @Xn x lo _ _ _ _ _ _ _ _ _ _ _ hx hy hT hl=>exact .Xn (by rw[he x (by simp[Op.operands])];exact hx) (by rw[he lo (by simp[Op.operands])];exact hy) hT hl
 | @ixB x y _ _ _ _ _ _ _ _ _ _ _ hx hy hT hl=>exact .ixB (by rw[he x (by simp[Op.operands])];exact hx) (by rw[he y (by simp[Op.operands])];exact hy) hT hl
 | @aw3 _ _ _ _ _ _ _ _ _ x _ ha hx hT=>exact .aw3 ha (by rw[he x (by simp[Op.operands,Call.operands])];exact hx) hT
 | @aM7 x h m _ _ _ _ _ hx hT hh hm =>
  exact .aM7 (by rw[he x (by simp[Op.operands])];exact hx) hT (rO hh λy hy=>he y (by simp[Op.operands] at hy ⊢;simp[hy])) (rO hm λy hy=>he y (by simp[Op.operands] at hy ⊢;simp[hy]))
 | @ab4 x h m _ _ _ _ _ _ hx hT hh hm hk hs =>
  exact .ab4 (by rw[he x (by simp[Op.operands])];exact hx) hT (rO hh λy hy=>he y (by simp[Op.operands] at hy ⊢;simp[hy])) (rO hm λy hy=>he y (by simp[Op.operands] at hy ⊢;simp[hy])) hk hs
 | @bin _ _ _ x y _ _ _ hx hy h=>exact .bin (by rw[he x (by simp[Op.operands])];exact hx) (by rw[he y (by simp[Op.operands])];exact hy) h
 | @eqb _ _ x y _ _ hx hy hT=>exact .eqb (by rw[he x (by simp[Op.operands])];exact hx) (by rw[he y (by simp[Op.operands])];exact hy) hT
 | @neb _ _ x y _ _ hx hy hT=>exact .neb (by rw[he x (by simp[Op.operands])];exact hx) (by rw[he y (by simp[Op.operands])];exact hy) hT
 | @not _ x _ hx=>exact .not (by rw[he x (by simp[Op.operands])];exact hx)
 | @neg _ x _ _ hx=>exact .neg (by rw[he x (by simp[Op.operands])];exact hx)
 | @conv _ _ x _ _ _ hx hs ht=>exact .conv (by rw[he x (by simp[Op.operands])];exact hx) hs ht
 | aI8 _ _ _ h=>exact h.elim
 | @lenD _ _ _ _ x _ _ ha hx hT=>exact .lenD ha (by rw[he x (by simp[Op.operands,Call.operands])];exact hx) hT
 | @aw4 _ _ _ _ x _ ha hx hT=>exact .aw4 ha (by rw[he x (by simp[Op.operands,Call.operands])];exact hx) hT
 | @aw5 _ _ _ _ _ _ _ _ x _ ha hx hT=>exact .aw5 ha (by rw[he x (by simp[Op.operands,Call.operands])];exact hx) hT
 | @ab5 _ _ _ _ x _ ha hx hT=>exact .ab5 ha (by rw[he x (by simp[Op.operands,Call.operands])];exact hx) hT
 | @max x y _ _ _ hx hy=>exact .max (by rw[he x (by simp[Op.operands,Call.operands])];exact hx) (by rw[he y (by simp[Op.operands,Call.operands])];exact hy)
 | @min x y _ _ _ _ hx hy=>exact .min (by rw[he x (by simp[Op.operands,Call.operands])];exact hx) (by rw[he y (by simp[Op.operands,Call.operands])];exact hy)
 | @Xo x y _ _ _ _ _ hx hy hT hb=>exact .Xo (by rw[he x (by simp[Op.operands])];exact hx) (by rw[he y (by simp[Op.operands])];exact hy) hT hb
 | @aw6 x _ _ _ _ _ hx hT hv=>exact .aw6 (by rw[he x (by simp[Op.operands])];exact hx) hT hv
 | @ext x _ _ _ hx hv=>exact .ext (by rw[he x (by simp[Op.operands])];exact hx) hv
 | @build t parts zs cs pl hz hp hf =>
  refine .build hz hp ?_
  rw[<- hf]
  congr 1
  apply List.map_congr_left
  intro p hpm
  rw[he p.2 (by simp only[Op.operands,List.mem_map];exact⟨p,hpm,rfl⟩)]
 | @call f args ats nR caps args' res hf ha hs =>
  refine .call (by rw[he f (by simp[Op.operands,Call.operands])];exact hf) ?_ hs
  rw[CB (ev':=ev') (ev:=ev) (λx hx=>he x (by simp only[Op.operands,Call.operands,Array.toList_append,List.mem_append];exact .inr hx))]
  exact ha
 | @mkIf _ x _ hT hx=>exact .mkIf hT (by rw[he x (by simp[Op.operands])];exact hx)
 | @aM8 _ _ x _ hT hx=>exact .aM8 hT (by rw[he x (by simp[Op.operands])];exact hx)
 | @inv x name args ats t nR v args' res hx hm ha hs =>
  refine .inv (by rw[he x (by simp[Op.operands,Call.operands])];exact hx) hm ?_ hs
  rw[CB (ev':=ev') (ev:=ev) (λx hx=>he x (by simp only[Op.operands,Call.operands,Array.toList_append,List.mem_append];exact .inr hx))]
  exact ha
 | @aw7 f caps =>
  rw[<- CB (ev':=ev') (ev:=ev) (l:=caps.toList) (λx hx=>he x (by simp only[Op.operands,Array.toList_append,List.mem_append];exact .inr hx))]
  exact .aw7
theorem Af.congr {op:Op}{v:V}(hp:Af P ev op v)(he:∀ x,x ∈ op.operands.toList->ev' x=ev x):Af P ev' op v:=by
 cases hp with
 | @ac0 _ _ _ _ _ x y _ _ _ _ hx hy hT hz hc hb hm=>exact .ac0 (by rw[he x (by simp[Op.operands])];exact hx) (by rw[he y (by simp[Op.operands])];exact hy) hT hz hc hb hm
 | @aw9 _ _ _ _ s x _ _ ha hs hx hT hsz hb hm=>exact .aw9 ha (by rw[he s (by simp[Op.operands,Call.operands])];exact hs) (by rw[he x (by simp[Op.operands,Call.operands])];exact hx) hT hsz hb hm
 | @YT _ _ _ _ _ parts xs hT hl hn QG hpos hx hsz =>
  exact .YT hT hl hn QG hpos (λi p y hp hy=>by
   rw[he p.2 (by simp only[Op.operands,List.mem_map];exact⟨p,List.mem_of_getElem? hp,rfl⟩)]
   exact hx i p y hp hy) hsz
 | ax0 hT=>exact .ax0 hT
theorem uP.congr {op:Op}{v:V}{M:Mem}{m:Nat}(hp:uP P ev M m op v)(he:∀ x,x ∈ op.operands.toList->ev' x=ev x):uP P ev' M m op v:=by
 induction hp with
 | @YR x _ _ _ _ _ _ _ hx hM hT hn=>exact .YR (by rw[he x (by simp[Op.operands])];exact hx) hM hT hn
 | @YS x _ _ _ _ _ _ _ hx hM hT hc=>exact .YS (by rw[he x (by simp[Op.operands])];exact hx) hM hT hc
 | @rowA x _ _ _ _ _ _ _ _ _ _ _ hm hx hM hel hT hn=>exact .rowA hm (by rw[he x (by simp[Op.operands])];exact hx) hM hel hT hn
 | @J3 x _ _ _ _ _ _ _ _ _ _ _ hm hx hM hel hT hd=>exact .J3 hm (by rw[he x (by simp[Op.operands])];exact hx) hM hel hT hd
 | le _ hl ih=>exact .le (ih he) hl
theorem yT.congr {op:Op}{d:Nat}{g:Nat->Nat->V × iE}(hp:yT P ev d op g)(he:∀ x,x ∈ op.operands.toList->ev' x=ev x):yT P ev' d op g:=by
 cases hp with
 | alloc hz=>exact .alloc hz
 | @box _ x _ hx hp=>exact .box (by rw[he x (by simp[Op.operands])];exact hx) hp
 | @isNil _ _ _ x _ hx hT hpos=>exact .isNil (by rw[he x (by simp[Op.operands])];exact hx) hT hpos
 | @make _ _ _ _ _ _ x y _ _ _ _ hx hy hT hz hc hn hb hm=>exact .make (by rw[he x (by simp[Op.operands])];exact hx) (by rw[he y (by simp[Op.operands])];exact hy) hT hz hc hn hb hm
 | @app _ _ _ _ s x _ _ ha hs hx hT hsz hb hm=>exact .app ha (by rw[he s (by simp[Op.operands,Call.operands])];exact hs) (by rw[he x (by simp[Op.operands,Call.operands])];exact hx) hT hsz hb hm
 | @ax1 _ _ _ _ _ _ _ s x _ ha htn hs hx hT h0 hb hm=>exact .ax1 ha htn (by rw[he s (by simp[Op.operands,Call.operands])];exact hs) (by rw[he x (by simp[Op.operands,Call.operands])];exact hx) hT h0 hb hm
 | @Xr f args _ _ _ _ _ caps _ _ hf ha hs =>
  refine .Xr (caps:=caps) (by rw[he f (by simp[Op.operands,Call.operands])];exact hf) ?_ hs
  have:args.toList.map ev' = args.toList.map ev:=List.map_congr_left λx hx=>he x (by simp[Op.operands,Call.operands];simp at hx;simp[hx])
  rw[this];exact ha
 | @ac1 f args _ _ _ _ _ _ caps _ _ hf ha hs =>
  refine .ac1 (caps:=caps) (by rw[he f (by simp[Op.operands,Call.operands])];exact hf) ?_ hs
  have:args.toList.map ev' = args.toList.map ev:=List.map_congr_left λx hx=>he x (by simp[Op.operands,Call.operands];simp at hx;simp[hx])
  rw[this];exact ha
 | @lit _ _ _ _ _ parts xs hT hl hn QG hpos hx hsz =>
  exact .lit hT hl hn QG hpos (λi p y hp hy=>by
   rw[he p.2 (by simp only[Op.operands,List.mem_map];exact⟨p,List.mem_of_getElem? hp,rfl⟩)]
   exact hx i p y hp hy) hsz
theorem GU.congr {op:Op}{M:Mem}{d id:Nat}{g:Nat->Nat->V × Option iE}(hp:GU P ev M d id op g)(he:∀ x,x ∈ op.operands.toList->ev' x=ev x):GU P ev' M d id op g:=by
 cases hp with
 | @own _ _ _ _ _ _ _ s x _ _ _ ha hs hM hn hx hT hsz hb hm=>exact .own ha (by rw[he s (by simp[Op.operands,Call.operands])];exact hs) hM hn (by rw[he x (by simp[Op.operands,Call.operands])];exact hx) hT hsz hb hm
 | @Vx _ _ _ _ _ _ _ s x _ _ _ ha hs hM hn hx hT hsz hb hm=>exact .Vx ha (by rw[he s (by simp[Op.operands,Call.operands])];exact hs) hM hn (by rw[he x (by simp[Op.operands,Call.operands])];exact hx) hT hsz hb hm
 | @ownB _ _ _ _ _ _ _ _ s x _ _ _ ha hs hM hn hx hT hsz hb hm=>exact .ownB ha (by rw[he s (by simp[Op.operands,Call.operands])];exact hs) hM hn (by rw[he x (by simp[Op.operands,Call.operands])];exact hx) hT hsz hb hm
theorem qx.congr {op:Op}{M M':Mem}{v:V}(hp:qx P ev M op v M')(he:∀ x,x ∈ op.operands.toList->ev' x=ev x):qx P ev' M op v M':=by
 cases hp with
 | @mk f args _ _ caps _ _ _ _ hf ha hc hc' hs =>
  refine .mk (caps:=caps) (by rw[he f (by simp[Op.operands,Call.operands])];exact hf) ?_ hc hc' hs
  have:args.toList.map ev' = args.toList.map ev:=List.map_congr_left λx hx=>he x (by simp[Op.operands,Call.operands];simp at hx;simp[hx])
  rw[this];exact ha
 | @inv x name args _ _ _ _ _ _ _ hr ha hc hc' hs =>
  refine .inv (hr.congr (he x (by simp[Op.operands,Call.operands]))) ?_ hc hc' hs
  have:args.toList.map ev' = args.toList.map ev:=List.map_congr_left λx hx=>he x (by simp[Op.operands,Call.operands];simp at hx;simp[hx])
  rw[this];exact ha
 | @copy _ _ _ _ _ _ _ _ s x _ _ _ ha hs hM hn hx hl h0 hT hsz=>exact .copy ha (by rw[he s (by simp[Op.operands,Call.operands])];exact hs) hM hn (by rw[he x (by simp[Op.operands,Call.operands])];exact hx) hl h0 hT hsz
theorem yg.congr {op:Op}{M M':Mem}(hp:yg P ev M op M')(he:∀ x,x ∈ op.operands.toList->ev' x=ev x):yg P ev' M op M':=by
 cases hp with
 | @box x y _ _ _ _ _ _ _ _ hx hy hp hM hT hl hn=>exact .box (by rw[he x (by simp[Op.operands])];exact hx) (by rw[he y (by simp[Op.operands])];exact hy) hp hM hT hl hn
 | @row x y _ _ _ _ _ _ _ _ _ hx hy hM hT hl hi=>exact .row (by rw[he x (by simp[Op.operands])];exact hx) (by rw[he y (by simp[Op.operands])];exact hy) hM hT hl hi
 | @ax2 x y _ _ _ _ _ _ _ _ _ _ _ _ _ hx hy hM hT hl hel hj hc=>exact .ax2 (by rw[he x (by simp[Op.operands])];exact hx) (by rw[he y (by simp[Op.operands])];exact hy) hM hT hl hel hj hc
theorem aN1 {s:S}{d:Option Nat}{v:V}{x:Operand}(h:∀ t,d=some t->x≠.tmp t):(s.put d v).ev x=s.ev x:=by
 cases d with
 | none=>rfl
 | some t =>
  cases x with
  | tmp u =>
   have:u≠t:=λe=>h t rfl (by rw[e])
   simp[S.ev,S.put,upd,this]
  | _=>rfl
theorem put_comm (s:S){d e:Option Nat}(v u:V)(h:∀ t,d=some t->e≠some t):(s.put d v).put e u=(s.put e u).put d v:=by
 cases d with
 | none=>cases e <;> rfl
 | some t =>
  cases e with
  | none=>rfl
  | some r =>
   have hne:r≠t:=λe=>h t rfl (by rw[e])
   simp only[S.put]
   rw[tC _ _ _ (Ne.symm hne)]
end
def kindOf:Op->Nat
 | .load ..=>2
 | .alloc _=>3
 | .call { callee:=.builtin .append,.. }=>4
 | .call { callee:=.builtin .len,.. }=>0
 | .call { callee:=.builtin .cap,.. }=>0
 | .call { callee:=.builtin .max,.. }=>0
 | .call { callee:=.builtin .min,.. }=>0
 | .call { callee:=.builtin .copy,.. }=>1
 | .call { callee:=.value _,.. }=>1
 | .call { callee:=.invoke ..,.. }=>1
 | .buildSlice ..|.makeSlice ..=>1
 | .store ..=>5
 | .move _|.assign _|.pick ..|.nilCheck _|.fieldAddr ..|.indexAddr ..|.slice ..|.binOp ..|.unOp ..|.convert ..|.extract ..|.field ..|.build ..|.makeFunc ..|.index ..|.makeInterface ..|.typeAssert ..=>0
 | _=>6
section
variable {P:Program}{ev:Operand->V}{M:Mem}{m:Nat}
theorem Pure.kind {op:Op}{v:V}(h:Pure P ev op v):kindOf op<=2:=by cases h <;> simp[kindOf]
theorem Af.kind {op:Op}{v:V}(h:Af P ev op v):kindOf op=1 \/ kindOf op=4:=by cases h <;> simp[kindOf]
theorem uP.kind {op:Op}{v:V}(h:uP P ev M m op v):kindOf op=2:=by induction h <;> first|rfl|assumption
theorem yT.kind {op:Op}{d:Nat}{g:Nat->Nat->V × iE}(h:yT P ev d op g)(hm:m≠0)(hn:DN m op=true):kindOf op=3 \/ kindOf op=4:=by
 have hm':(m == 0)=false:=by simpa using hm
 cases h <;> simp[DN,hm'] at hn <;> simp[kindOf]
theorem GU.kind {op:Op}{d id:Nat}{g:Nat->Nat->V × Option iE}(h:GU P ev M d id op g):kindOf op=4:=by cases h <;> rfl
theorem GU.row {op:Op}{d id:Nat}{g:Nat->Nat->V × Option iE}(h:GU P ev M d id op g):∃ b c e sz es,M id=some (.row b c e sz es):=by
 cases h with
 | own _ _ hM=>exact⟨_,_,_,_,_,hM⟩
 | Vx _ _ hM=>exact⟨_,_,_,_,_,hM⟩
 | ownB _ _ hM=>exact⟨_,_,_,_,_,hM⟩
theorem qx.kind {op:Op}{v:V}{M':Mem}(h:qx P ev M op v M'):kindOf op=1:=by cases h <;> rfl
theorem GZ {op:Op}(h:Ku op=true):kindOf op=1:=by
 unfold Ku at h
 split at h
 .rfl
 .rfl
 .rfl
 .cases h
def fE (m:Nat)(o:Oper):Nat:=if Jt m o=true then 7 else if GX m o=true then 8 else if Ju m o=true then 9 else kindOf o.op
theorem VB {o:Oper}(h:Jt m o=true):kindOf o.op=1:=GZ (by unfold Jt at h;simp only[Bool.and_eq_true] at h;exact h.2)
theorem SV {op:Op}(h:Vy op=true):kindOf op=1:=by
 unfold Vy at h
 split at h
 .rfl
 .rfl
 .cases h
theorem VE {o:Oper}(h:GX m o=true):kindOf o.op=1:=SV (by unfold GX at h;simp only[Bool.and_eq_true] at h;exact h.2)
theorem Ll {o:Oper}(h:Ju m o=true):kindOf o.op=1:=GZ (by unfold Ju at h;simp only[Bool.and_eq_true] at h;exact h.2)
theorem VF {o:Oper}(h:GX m o=true):Jt m o=false:=by
 unfold GX at h
 simp only[Bool.and_eq_true,decide_eq_true_eq] at h
 unfold Jt
 rw[decide_eq_false (show ¬ m % 2=1 by omega)]
 simp
theorem yV {o:Oper}(h:kindOf o.op≠1):fE m o=kindOf o.op:=by
 unfold fE
 rw[if_neg λe=>h (VB e),if_neg λe=>h (VE e),if_neg λe=>h (Ll e)]
theorem ax5 {o:Oper}(h:Ju m o=true):7<=fE m o:=by
 unfold fE
 split
 .omega
 .split
  .omega
  .omega
theorem Lm {o:Oper}(hm:Jt m o=true):fE m o=7:=if_pos hm
theorem ac9 {o:Oper}(h:fE m o<=2):fE m o=kindOf o.op:=by
 unfold fE at *
 split
 .rename_i e;rw[if_pos e] at h;omega
 .rename_i e1
  rw[if_neg e1] at h
  split
  .rename_i e;rw[if_pos e] at h;omega
  .rename_i e2
   rw[if_neg e2] at h
   split
   .rename_i e;rw[if_pos e] at h;omega
   .rfl
theorem yT.fE {o:Oper}{d:Nat}{g:Nat->Nat->V × iE}(h:yT P ev d o.op g)(hm:m≠0)(hn:DN m o.op=true \/ GX m o=true):AL.fE m o=3 \/ AL.fE m o=4 \/ AL.fE m o=8:=by
 rcases hn with hn|hn
 .have hk:=h.kind hm hn
  rw[yV (by omega)]
  exact hk.imp (λh=>h) .inl
 .refine .inr (.inr ?_)
  unfold AL.fE
  rw[VF hn,if_neg (by decide),if_pos hn]
theorem yg.kind {op:Op}{M':Mem}(h:yg P ev M op M'):kindOf op=5:=by cases h <;> rfl
def Jw (m:Nat)(ops:Array Oper)(p i:Oper):Bool :=
 p.apart ops i && match fE m p,fE m i with
 | 0,_=>true
 | 1,_=>true
 | 2,k=>k != 5 && k != 6 && k != 7 && (k != 4 || (decide (2<=m) && decide (m<1000000)))
 | 3,3=>p.guard.isNone && i.guard.isNone
 | 4,3=>p.guard.isNone && i.guard.isNone
 | 7,3=>p.guard.isNone && i.guard.isNone
 | 8,3=>p.guard.isNone && i.guard.isNone
 | 9,k=>k != 4 && k != 5 && k != 6 && k != 7
 | _,_=>false
def RdW (P:Program)(m:Nat)(o:Oper)(v:V)(s:S):Prop:=Pure P s.ev o.op v \/ Af P s.ev o.op v \/ uP P s.ev s.M m o.op v \/ (Ju m o=true/\qx P s.ev s.M o.op v s.M)
def PG (P:Program)(m:Nat)(ops:Array Oper)(o:Oper)(v:V)(s:S):Prop :=
 match o.guard with
 | none=>RdW P m o v s
 | some (j,want)=>∃ b,D5 ops s j=some b/\((b=some want/\RdW P m o v s) \/ (b≠some want/\v=.jS []))
theorem OW.Xx {o:Oper}{v:V}{s:S}{K:S->Prop}(h:RdW P m o v s)(hk:K (s.put o.dst v)):OW P m o K s:=by
 rcases h with h|h|h|⟨hn,h⟩
 .exact .inl ⟨v,.inl h,hk⟩
 .exact .inl ⟨v,.inr h,hk⟩
 .exact .inr (.inl ⟨v,h,hk⟩)
 .exact .inr (.inr (.inr (.inr (.inr (.inr ⟨hn,v,h,hk⟩)))))
theorem PG.og {ops:Array Oper}{o:Oper}{v:V}{s:S}{K:S->Prop}(h:PG P m ops o v s)(hk:K (s.put o.dst v)):OG P m ops o K s:=by
 unfold PG at h
 unfold OG
 cases hg:o.guard with
 | none=>simp only[hg] at h;exact OW.Xx h hk
 | some q =>
  obtain⟨j,want⟩:=q
  simp only[hg] at h
  obtain⟨b,h1,h2⟩:=h
  refine⟨b,h1,?_⟩
  rcases h2 with ⟨e,h2⟩|⟨e,rfl⟩
  .exact .inl ⟨e,OW.Xx h2 hk⟩
  .exact .inr ⟨e,hk⟩
theorem ax6 {o:Oper}(h:fE m o=9):Jt m o=false/\kindOf o.op=1:=by
 unfold fE at h
 split at h
 .omega
 .rename_i e1
  split at h
  .omega
  .split at h
   .rename_i e;exact⟨by simpa using e1,Ll e⟩
   .exfalso
    have:kindOf o.op<=6:=by unfold kindOf;split <;> omega
    omega
theorem OW.to_pure {o:Oper}{s:S}{K:S->Prop}(hm:m≠0)(hk:fE m o<=2 \/ fE m o=9)(h:OW P m o K s):∃ v,RdW P m o v s/\K (s.put o.dst v):=by
 have hk4:kindOf o.op≠4/\kindOf o.op≠5:=by
  rcases hk with hk|hk
  .have:=ac9 hk;omega
  .have:=ax6 hk;omega
 rcases h with ⟨v,hp,h⟩|⟨v,hp,h⟩|⟨d,g,e,⟨_,e'⟩,hp,h⟩|⟨d,id,g,e,e',hp,h⟩|⟨e,M',hp,h⟩|⟨e,v,M',hp,h⟩|⟨e,v,hp,h⟩
 .exact⟨v,hp.elim .inl (λh=>.inr (.inl h)),h⟩
 .exact⟨v,.inr (.inr (.inl hp)),h⟩
 .have:=hp.fE hm e';omega
 .exact absurd hp.kind hk4.1
 .exact absurd hp.kind hk4.2
 .have:=Lm (e.resolve_left hm);omega
 .exact⟨v,.inr (.inr (.inr ⟨e,hp⟩)),h⟩
theorem OG.aY4 {ops:Array Oper}{o:Oper}{s:S}{K:S->Prop}(hm:m≠0)(hk:fE m o<=2 \/ fE m o=9)(h:OG P m ops o K s):∃ v,PG P m ops o v s/\K (s.put o.dst v):=by
 unfold OG at h
 unfold PG
 cases hg:o.guard with
 | none =>
  simp only[hg] at h
  exact h.to_pure hm hk
 | some q =>
  obtain⟨j,want⟩:=q
  simp only[hg] at h
  obtain⟨b,h1,h2⟩:=h
  rcases h2 with ⟨e,h2⟩|⟨e,h2⟩
  .obtain⟨v,hv,hk'⟩:=h2.to_pure hm hk
   exact⟨v,⟨b,h1,.inl ⟨e,hv⟩⟩,hk'⟩
  .exact⟨.jS [],⟨b,h1,.inr ⟨e,rfl⟩⟩,h2⟩
def aY5 (k:Nat)(M M':Mem):Prop:=k=5 \/ k=7 \/ ∀ id blk,M id=some blk->M' id=some blk \/ (k=4/\∃ b c e sz es,blk=.row b c e sz es)
structure Rel (m:Nat) (i:Oper) (s s':S):Prop where
 ρ:∀ t,i.dst≠some t->s'.ρ t=s.ρ t
 M:aY5 (fE m i) s.M s'.M
theorem Rel.put (i:Oper)(s:S)(v:V):Rel m i s (s.put i.dst v):=by
 refine⟨λt ht=>?_,.inr (.inr λid blk h=>.inl ?_)⟩
 .cases hd:i.dst with
  | none=>rfl
  | some d =>
   have:t≠d:=λe=>ht (by rw[hd,e])
   simp[S.put,upd,this]
 .rw[S.xJ];exact h
theorem EO {ops:Array Oper}{x y:Oper}(h:x.apart ops y=true) :
  (∀ (s:S) (v:V) (q:Operand),q ∈ y.op.operands.toList->(s.put x.dst v).ev q=s.ev q)/\(∀ t,x.dst=some t->y.dst≠some t) /\
  (∀ j want,y.guard=some (j,want)->∀ t,x.dst=some t->((ops[j]?).bind (·.dst))≠some t) /\
  (∀ j want,x.guard=some (j,want)->∀ t,y.dst=some t->((ops[j]?).bind (·.dst))≠some t) /\
  (∀ q,q ∈ x.op.operands.toList->∀ t,y.dst=some t->q≠.tmp t):=by
 obtain⟨h1,h2,h3⟩:=Oper.apart_spec h
 have look:∀ (o:Oper) (t:Nat),Operand.tmp t ∈ o.op.operands.toList->t ∈ o.looksAt ops:=λo t ht=>by
  unfold Oper.looksAt
  rw[List.mem_append]
  exact .inl (List.mem_filterMap.2 ⟨_,ht,rfl⟩)
 have aJ0:∀ (o:Oper) (j:Nat) (want:Bool) (t:Nat),o.guard=some (j,want)->((ops[j]?).bind (·.dst))=some t->t ∈ o.looksAt ops:=λo j want t hg hd=>by
  unfold Oper.looksAt
  rw[List.mem_append,hg]
  exact .inr (by simp[hd])
 refine⟨λs v q hq=>aN1 λt ht e=>?_,h2,λj want hg t ht e=>?_,λj want hg t ht e=>?_,λq hq t ht e=>?_⟩
 .subst e;exact h1 t ht (look y t hq)
 .exact h1 t ht (aJ0 y j want t hg e)
 .exact h3 t ht (aJ0 x j want t hg e)
 .subst e;exact h3 t ht (look x t hq)
theorem Lp {ops:Array Oper}{s s':S}{j:Nat}(h:∀ t,((ops[j]?).bind (·.dst))=some t->s'.ρ t=s.ρ t):D5 ops s' j=D5 ops s j:=by
 unfold D5
 cases hd:(ops[j]?).bind (·.dst) with
 | none=>rfl
 | some t=>simp[h t hd]
theorem ad1 {s:S}{d:Option Nat}{v:V}{t:Nat}(h:d≠some t):(s.put d v).ρ t=s.ρ t:=by
 cases d with
 | none=>rfl
 | some u =>
  have:t≠u:=λe=>h (by rw[e])
  simp[S.put,upd,this]
theorem OW.frame {p i:Oper}{ops:Array Oper}(ha:p.apart ops i=true)(hm:m≠0){s:S}{v:V}{K:S->Prop}(h:OW P m i K (s.put p.dst v)) :
  OW P m i (λs'=>K (s'.put p.dst v)/\Rel m i s s') s:=by
 obtain⟨a1,a2,_,_,_⟩:=EO ha
 have hev:∀ q,q ∈ i.op.operands.toList->s.ev q=(s.put p.dst v).ev q:=λq hq=>(a1 s v q hq).symm
 rcases h with ⟨u,hp,h⟩|⟨u,hp,h⟩|⟨d,g,e,e',hp,h⟩|⟨d,id,g,e,e',hp,h⟩|⟨e,M',hp,h⟩|⟨e,u2,M',hp,h⟩|⟨e,u,hp,h⟩
 .exact .inl ⟨u,hp.imp (λh=>h.congr hev) (λh=>h.congr hev),by rw[<- put_comm s v u a2];exact h,Rel.put i s u⟩
 .rw[S.xJ] at hp
  exact .inr (.inl ⟨u,hp.congr hev,by rw[<- put_comm s v u a2];exact h,Rel.put i s u⟩)
 .rw[S.xJ] at e'
  refine .inr (.inr (.inl ⟨d,g,e,e',hp.congr hev,λb c=>⟨?_,λt ht=>?_,?_⟩⟩))
  .have hh:=h b c
   rw[S.xJ] at hh
   have:=put_comm s (d:=p.dst) (e:=some d) v (g b c).1 (λt ht=>by rw[<- e];exact a2 t ht)
   cases SX:p.dst with
   | none=>rw[SX] at hh;exact hh
   | some r =>
    rw[SX] at hh this
    have e2:upd (upd s.ρ r v) d (g b c).1=upd (upd s.ρ d (g b c).1) r v:=by have:=congrArg S.ρ this;exact this
    show K ⟨upd (upd s.ρ d (g b c).1) r v,_⟩
    rw[<- e2];exact hh
  .have:t≠d:=λe1=>ht (by rw[e,e1])
   simp[upd,this]
  .refine .inr (.inr λid blk hid=>.inl ?_)
   have:id≠d:=λe1=>by subst e1;rw[e'.1] at hid;cases hid
   simp[upd,this,hid]
 .rw[S.xJ] at e' hp
  have hrow:=hp.row
  refine .inr (.inr (.inr (.inl ⟨d,id,g,e,e',hp.congr hev,λb c=>⟨?_,λt ht=>?_,?_⟩⟩)))
  .have hh:=h b c
   rw[S.xJ] at hh
   have:=put_comm s (d:=p.dst) (e:=some d) v (g b c).1 (λt ht=>by rw[<- e];exact a2 t ht)
   cases SX:p.dst with
   | none=>rw[SX] at hh;exact hh
   | some r =>
    rw[SX] at hh this
    have e2:upd (upd s.ρ r v) d (g b c).1=upd (upd s.ρ d (g b c).1) r v:=by have:=congrArg S.ρ this;exact this
    show K ⟨upd (upd s.ρ d (g b c).1) r v,_⟩
    rw[<- e2];exact hh
  .have:t≠d:=λe1=>ht (by rw[e,e1])
   simp[upd,this]
  .refine .inr (.inr λid' blk hid=>?_)
   by_cases h1:id' = id
   .subst h1
    obtain⟨b',c',e3,sz,es,hr⟩:=hrow
    rw[hr] at hid;cases hid
    exact .inr ⟨(yV (by rw[hp.kind];decide)).trans hp.kind,_,_,_,_,_,rfl⟩
   .have h2:id' ≠ d:=λe1=>by
     subst e1
     rcases e' with e'|e'
     .rw[e'] at hid;cases hid
     .exact h1 e'
    exact .inl (by simp[upd,h1,h2,hid])
 .rw[S.xJ] at hp
  have hρ:(⟨(s.put p.dst v).ρ,M'⟩:S)=(⟨s.ρ,M'⟩:S).put p.dst v:=by cases p.dst <;> rfl
  rw[hρ] at h
  exact .inr (.inr (.inr (.inr (.inl ⟨e,M',hp.congr hev,h,λt _=>rfl,.inl ((yV (by rw[hp.kind];decide)).trans hp.kind)⟩))))
 .rw[S.xJ] at hp
  have hk7:=Lm (e.resolve_left hm)
  have h2:K ((⟨(s.put p.dst v).ρ,M'⟩:S).put i.dst u2):=h
  have hρ:(⟨(s.put p.dst v).ρ,M'⟩:S)=(⟨s.ρ,M'⟩:S).put p.dst v:=by cases p.dst <;> rfl
  rw[hρ,put_comm _ v u2 a2] at h2
  exact .inr (.inr (.inr (.inr (.inr (.inl ⟨e,u2,M',hp.congr hev,h2,λt ht=>by rw[ad1 ht],.inr (.inl hk7)⟩)))))
 .rw[S.xJ] at hp
  exact .inr (.inr (.inr (.inr (.inr (.inr ⟨e,u,hp.congr hev,by rw[<- put_comm s v u a2];exact h,Rel.put i s u⟩)))))
theorem OG.frame {p i:Oper}{ops:Array Oper}(ha:p.apart ops i=true)(hm:m≠0){s:S}{v:V}{K:S->Prop}(h:OG P m ops i K (s.put p.dst v)) :
  OG P m ops i (λs'=>K (s'.put p.dst v)/\Rel m i s s') s:=by
 obtain⟨_,a2,a3,_,_⟩:=EO ha
 unfold OG at *
 cases hg:i.guard with
 | none=>simp only[hg] at h;exact h.frame ha hm
 | some q =>
  obtain⟨j,want⟩:=q
  simp only[hg] at h
  obtain⟨b,h1,h2⟩:=h
  have e1:D5 ops (s.put p.dst v) j=D5 ops s j:=Lp λt ht=>ad1 λe=>a3 j want hg t e ht
  refine⟨b,by rw[<- e1];exact h1,?_⟩
  rcases h2 with ⟨e,h2⟩|⟨e,h2⟩
  .exact .inl ⟨e,h2.frame ha hm⟩
  .exact .inr ⟨e,by rw[<- put_comm s v (.jS []) a2];exact h2,Rel.put i s (.jS [])⟩
theorem OM {M Mc DX:Mem}(h:M.over Mc DX = M){id:Nat}{b:iE}(hid:Mc id=some b):DX id=M id:=by
 have:=congrFun h id
 simpa [Mem.over,hid] using this
theorem qx.same {ev:Operand->V}{M M':Mem}{op:Op}{v:V}(h:qx P ev M op v M)(hM:∀ id blk,M id=some blk->M' id=some blk):qx P ev M' op v M':=by
 generalize hN:M=N at h
 have h:qx P ev M op v N:=by rw[hN];exact h
 cases h with
 | @mk f args ats nR caps args' res Mc DX hf ha hc hc' hs =>
  have e:M'.over Mc DX = M':=by
   funext id
   unfold Mem.over
   cases hq:Mc id with
   | none=>rfl
   | some b =>
    have h1:=hc id b hq
    have h2:=OM hN.symm hq
    simp only[Option.isSome_some,if_true]
    rw[h2,h1,hM id b h1]
  have h0:qx P ev M' (.call { callee:=.value f,args:=args,argTypes:=ats }) v (M'.over Mc DX):=.mk hf ha (λid blk hid=>hM id blk (hc id blk hid)) hc' hs
  rw[e] at h0
  exact h0
 | @inv x name args ats nR rv args' res Mc DX hr ha hc hc' hs =>
  have e:M'.over Mc DX = M':=by
   funext id
   unfold Mem.over
   cases hq:Mc id with
   | none=>rfl
   | some b =>
    have h1:=hc id b hq
    have h2:=OM hN.symm hq
    simp only[Option.isSome_some,if_true]
    rw[h2,h1,hM id b h1]
  have h0:qx P ev M' (.call { callee:=.invoke x name,args:=args,argTypes:=ats }) v (M'.over Mc DX):=.inv (hr.mono hM) ha (λid blk hid=>hM id blk (hc id blk hid)) hc' hs
  rw[e] at h0
  exact h0
 | @copy t e sz eF id b n c s x es xs ats ha hs hM0 hn hx hl h0 hT hsz =>
  have e1:M id=some (.row b c e sz xs):=by rw[hN];exact upd_same _ _ _
  have e2:=hM id _ e1
  have e3:upd M' id (some (.row b c e sz xs))=M':=by
   funext k
   unfold upd
   split
   .rename_i ek;subst ek;exact e2.symm
   .rfl
  have hes:es=xs:=by rw[e1] at hM0;cases hM0;rfl
  have h9:qx P ev M' (.call { callee:=.builtin .copy,args:=#[s,x],argTypes:=ats }) (.d (.sc (.int .i64 (n:Int)))) (upd M' id (some (.row b c e sz xs))):=.copy ha hs (es:=xs) e2 (by rw[<- hes];exact hn) hx hl h0 hT hsz
  rw[e3] at h9
  exact h9
theorem uP.keep {ev:Operand->V}{M M':Mem}{Kd:Prop}{op:Op}{v:V}(h:uP P ev M m op v)(hM:∀ id blk,M id=some blk->M' id=some blk \/ (Kd/\∃ b c e sz es,blk=.row b c e sz es))(c2:Kd->2<=m/\m<1000000):uP P ev M' m op v:=by
 have c3:SE m=true->¬ Kd:=λh k=>by
  have:=c2 k
  unfold SE at h
  rw[Bool.or_eq_true,decide_eq_true_eq,decide_eq_true_eq] at h
  omega
 induction h with
 | YR hx hM' hT hn =>
  rcases hM _ _ hM' with h2|⟨_,b,c,e,sz,es,h2⟩
  .exact .YR hx h2 hT hn
  .cases h2
 | YS hx hM' hT hn =>
  rcases hM _ _ hM' with h2|⟨_,b,c,e,sz,es,h2⟩
  .exact .YS hx h2 hT hn
  .cases h2
 | rowA hm hx hM' hel hT hn =>
  rcases hM _ _ hM' with h2|⟨h3,_⟩
  .exact .rowA hm hx h2 hel hT hn
  .exact absurd h3 (c3 hm)
 | J3 hm hx hM' hel hT hd =>
  rcases hM _ _ hM' with h2|⟨h3,_⟩
  .exact .J3 hm hx h2 hel hT hd
  .exact absurd h3 (c3 hm)
 | le _ hl ih=>exact .le ih hl
theorem PG.rel {p i:Oper}{ops:Array Oper}(ha:p.apart ops i=true)(hc:kindOf p.op=2->(fE m i≠5/\fE m i≠7)/\(fE m i=4->2<=m/\m<1000000))(hcC:Ju m p=true->fE m i≠4/\fE m i≠5/\fE m i≠7){s s':S}{v:V}(h:PG P m ops p v s)(hr:Rel m i s s'):PG P m ops p v s':=by
 obtain⟨_,_,_,a4,a5⟩:=EO ha
 have hev:∀ q,q ∈ p.op.operands.toList->s'.ev q=s.ev q:=λq hq=>by
  cases q with
  | tmp t=>exact hr.ρ t λe=>a5 _ hq t e rfl
  | _=>rfl
 have step:RdW P m p v s->RdW P m p v s':=by
  rintro (h|h|h|⟨hn,h⟩)
  .exact .inl (h.congr hev)
  .exact .inr (.inl (h.congr hev))
  .obtain⟨c1,c2⟩:=hc h.kind
   have h:=h.congr hev
   have hM:=(hr.M.resolve_left c1.1).resolve_left c1.2
   exact .inr (.inr (.inl (h.keep hM c2)))
  .obtain⟨c1,c2,c3⟩:=hcC hn
   have hM:=(hr.M.resolve_left c2).resolve_left c3
   exact .inr (.inr (.inr ⟨hn,(h.congr hev).same λid blk hid=>(hM id blk hid).resolve_right λe=>c1 e.1⟩))
 unfold PG at *
 cases hg:p.guard with
 | none=>simp only[hg] at h;exact step h
 | some q =>
  obtain⟨j,want⟩:=q
  simp only[hg] at h
  obtain⟨b,h1,h2⟩:=h
  have e1:D5 ops s' j=D5 ops s j:=Lp λt ht=>hr.ρ t λe=>a4 j want hg t e ht
  exact⟨b,by rw[e1];exact h1,h2.imp (λ⟨e,h⟩=>⟨e,step h⟩) (λh=>h)⟩
theorem SY {p i:Oper}{ops:Array Oper}(ha:p.apart ops i=true)(hm:m≠0)(hk:fE m p<=2 \/ fE m p=9)(hc:kindOf p.op=2->(fE m i≠5/\fE m i≠7)/\(fE m i=4->2<=m/\m<1000000))(hcC:Ju m p=true->fE m i≠4/\fE m i≠5/\fE m i≠7){s:S}{K:S->Prop}
  (h:OG P m ops p (OG P m ops i K) s):OG P m ops i (OG P m ops p K) s:=by
 obtain⟨v,hv,h⟩:=h.aY4 hm hk
 exact (h.frame ha hm).mono λs' ⟨hk',hr⟩=>(hv.rel ha hc hcC hr).og hk'
end
theorem qW {P:Program}{E:Env}{s:S}{c:Operand}{x y:Code}{Q:Exit->S->Prop}(hc:s.ev c=.d (.sc (.bool false)))(h:AW P E y Q s):AW P E (.cond c x y) Q s:=AW.cond hc (λe=>by cases e) (λ_=>h)
theorem Ot {P:Program}{E:Env}{s:S}{c:Operand}{x y:Code}{Q:Exit->S->Prop}(hc:s.ev c=.d (.sc (.bool true)))(h:AW P E x Q s):AW P E (.cond c x y) Q s:=AW.cond hc (λ_=>h) (λe=>by cases e)
