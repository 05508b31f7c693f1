/-
  M, chapters 23 and 24: weights, arcs, automata and machines as data.
-/
import Derived.Test.YtfebfmplcjdomaaGreatDoorKMod78
set_option linter.unusedVariables false
set_option linter.unusedSimpArgs false
namespace Go.AL
open Go Go.BigFrame
structure SameA (a b:Au):Prop where
 st:a.st=b.st
 sym:a.sym=b.sym
 ini:a.ini=b.ini
 fin:a.fin=b.fin
 ent:∀ s i j,entA a.arcs s i j=entA b.arcs s i j
def formOf (a:Au):Au:={ a with arcs:=formA a.arcs }
def scaleOf (a:Au) (c:Rat):Au:={ formOf a with ini:=a.ini.map fun x=>x * c }
def moved (l:List Arc9) (by_:Nat):List Arc9:=l.map fun x=>⟨x.f+by_,x.l,x.t+by_,x.q⟩
def unionOf (a b:Au):Au:=⟨a.sym,a.st+b.st,a.ini ++ b.ini,a.fin ++ b.fin,formA (moved a.arcs 0 ++ moved b.arcs a.st)⟩
def revOf (a:Au):Au:=⟨a.sym,a.st,a.fin,a.ini,formA (a.arcs.map fun x=>⟨x.t,x.l,x.f,x.q⟩)⟩
section
variable {a b c d:Au} {w:List Int} {s i j:Nat}
theorem mtx_congr {n:Nat} {f g:Nat→Nat→Rat} (h:∀ i j,i < n→j < n→f i j=g i j):mtx n f=mtx n g:=by
 unfold mtx
 refine List.map_congr_left fun i hi=>List.map_congr_left fun j hj=>h i j (List.mem_range.1 hi) (List.mem_range.1 hj)
theorem SameA.ent1 (h:SameA a b) (r q:List Au) (hr:∀ s i j,entL r s i j=entL q s i j):entL (a :: r) s i j=entL (b :: q) s i j:=by
 rw [entL,entL,h.st,h.ent,hr]
theorem SameA.mach1 (h:SameA a b):machL [a]=machL [b]:=by
 unfold machL
 have e:(fun s=>mtx (sizeL [a]) (entL [a] s))=fun s=>mtx (sizeL [b]) (entL [b] s):=by
  funext s
  rw [size_one,size_one,h.st]
  exact mtx_congr fun i j _ _=>h.ent1 [] [] fun _ _ _=>rfl
 rw [e,size_one,size_one,h.st]
 simp only [List.flatMap_cons,List.flatMap_nil,finL,List.getD_cons_zero,h.ini,h.fin,h.sym]
theorem SameA.mach2 (h:SameA a b) (k:SameA c d):machL [a,c]=machL [b,d]:=by
 unfold machL
 have e:(fun s=>mtx (sizeL [a,c]) (entL [a,c] s))=fun s=>mtx (sizeL [b,d]) (entL [b,d] s):=by
  funext s
  rw [size_two,size_two,h.st,k.st]
  exact mtx_congr fun i j _ _=>h.ent1 _ _ fun _ _ _=>k.ent1 [] [] fun _ _ _=>rfl
 rw [e,size_two,size_two,h.st,k.st]
 simp only [List.flatMap_cons,List.flatMap_nil,finL,List.getD_cons_zero,h.ini,h.fin,h.sym,k.ini,k.fin]
theorem SameA.ser (h:SameA a b):serA a=serA b:=by unfold serA;rw [h.mach1]
theorem SameA.refl (a:Au):SameA a a:=⟨rfl,rfl,rfl,rfl,fun _ _ _=>rfl⟩
theorem form_same (a:Au):SameA (formOf a) a:=⟨rfl,rfl,rfl,rfl,fun _ _ _=>entA_form⟩
theorem Au.Ok.form (h:a.Ok):(formOf a).Ok:=⟨h.sym0,h.ini,h.fin,PlaceA.form (p:=fun f l t=>f < a.st∧t < a.st∧1≤l∧l≤a.sym) h.arc⟩
theorem Au.Ok.scale (h:a.Ok) (q:Rat):(scaleOf a q).Ok:=⟨h.sym0,by show (a.ini.map _).length=_;rw [List.length_map];exact h.ini,h.fin,h.form.arc⟩
theorem Au.Ok.union (h:a.Ok) (k:b.Ok) (hs:a.sym=b.sym):(unionOf a b).Ok:=by
 refine ⟨h.sym0,by show (a.ini ++ b.ini).length=_;rw [List.length_append,h.ini,k.ini];rfl,by show (a.fin ++ b.fin).length=_;rw [List.length_append,h.fin,k.fin];rfl,PlaceA.form (p:=fun f l t=>f < a.st+b.st∧t < a.st+b.st∧1≤l∧l≤a.sym) fun y hy=>?_⟩
 rcases List.mem_append.1 hy with hy | hy
 ·obtain ⟨x,hx,rfl⟩:=List.mem_map.1 hy
  have:=h.arc x hx
  exact ⟨by show x.f+0 < _;omega,by show x.t+0 < _;omega,this.2.2.1,this.2.2.2⟩
 ·obtain ⟨x,hx,rfl⟩:=List.mem_map.1 hy
  have:=k.arc x hx
  exact ⟨by show x.f+a.st < _;omega,by show x.t+a.st < _;omega,this.2.2.1,by show x.l≤_;omega⟩
theorem Au.Ok.rev (h:a.Ok):(revOf a).Ok:=⟨h.sym0,h.fin,h.ini,PlaceA.form (p:=fun f l t=>f < a.st∧t < a.st∧1≤l∧l≤a.sym) fun y hy=>by
 obtain ⟨x,hx,rfl⟩:=List.mem_map.1 hy
 have:=h.arc x hx
 exact ⟨this.2.1,this.1,this.2.2⟩⟩
theorem wt_scale {m m2:Mach} {q:Rat} (hn:m2.n=m.n) (hm:m2.mats=m.mats) (hf:m2.fin=m.fin) (hi:∀ i,i < m.n→m2.ini.getD i 0=m.ini.getD i 0 * q) (w:List Int):wtM m2 w=wtM m w * q:=by
 have hv:∀ i,i < m.n→(vecM m2 w).getD i 0=(vecM m w).getD i 0 * q:=by
  induction hl:w.length generalizing w with
  | zero =>
   rw [List.eq_nil_of_length_eq_zero hl]
   exact hi
  | succ n ih =>
   have hne:w≠[]:=fun e=>by subst e;cases hl
   obtain ⟨y,x,rfl⟩:∃ y x,w=y ++ [x]:=⟨w.dropLast,w.getLast hne,(List.dropLast_concat_getLast hne).symm⟩
   intro i hi'
   have ihy:=ih y (by rw [List.length_append,List.length_singleton] at hl;omega)
   rw [vecM_snoc,vecM_snoc,stepM_vf (by rw [hn];exact hi'),stepM_vf hi',hn,← sumN_mulR]
   refine sumN_congr fun k hk=>?_
   have e:entM m2 (x.toNat - 1) k i=entM m (x.toNat - 1) k i:=by unfold entM;rw [hm]
   rw [ihy k hk,e,Rat.mul_assoc,Rat.mul_assoc,Rat.mul_comm q]
 unfold wtM dotM
 rw [hn,hf,← sumN_mulR]
 refine sumN_congr fun i hi'=>?_
 show (vecM m2 w).getD i 0 * _=_
 rw [hv i hi',Rat.mul_assoc,Rat.mul_assoc,Rat.mul_comm q]
theorem ser_scale (ha:a.Ok) (q:Rat) (w:List Int):serA (scaleOf a q) w=serA a w * q:=by
 rw [← (form_same a).ser]
 refine wt_scale (m:=machL [formOf a]) (m2:=machL [scaleOf a q]) rfl ?_ rfl (fun i hi=>?_) w
 ·rfl
 ·show ((a.ini.map fun x=>x * q) ++ []).getD i 0=(a.ini ++ []).getD i 0 * q
  rw [List.append_nil,List.append_nil,List.getD_eq_getElem?_getD,List.getElem?_map,List.getD_eq_getElem?_getD]
  have hi:i < a.ini.length:=by rw [ha.ini];exact Nat.lt_of_lt_of_eq hi size_one
  rw [List.getElem?_eq_getElem hi];rfl
theorem entA_moved {l:List Arc9} {n:Nat}:entA (moved l n) s i j=if n≤i∧n≤j then entA l s (i - n) (j - n) else 0:=by
 unfold entA moved
 rw [lsum_map]
 split
 ·refine lsum_congr fun x _=>?_
  show (if x.f+n=i∧x.l=s+1∧x.t+n=j then x.q else 0)=if x.f=i - n∧x.l=s+1∧x.t=j - n then x.q else 0
  by_cases hc:x.f=i - n∧x.l=s+1∧x.t=j - n
  ·rw [if_pos hc,if_pos (by omega)]
  ·rw [if_neg hc,if_neg (by omega)]
 ·refine lsumZ fun x _=>?_
  show (if x.f+n=i∧x.l=s+1∧x.t+n=j then x.q else 0)=0
  rw [if_neg (by omega)]
theorem entA_out {l:List Arc9} {n:Nat} (h:∀ x,x ∈ l→x.f < n∧x.t < n) (hij:n≤i ∨ n≤j):entA l s i j=0:=lsumZ fun x hx=>if_neg (by have:=h x hx;omega)
theorem ser_union (ha:a.Ok) (hb:b.Ok) (hs:a.sym=b.sym) (hw:InW a.sym w):serA (unionOf a b) w=serA a w+serA b w:=by
 obtain ⟨h1,h2⟩:=vec_two ha hb hs w hw
 have em:(machL [unionOf a b]).mats=(machL [a,b]).mats:=by
  show (List.range a.sym).map _=(List.range a.sym).map _
  refine List.map_congr_left fun s _=>?_
  rw [size_one,size_two]
  show mtx (a.st+b.st) _=_
  refine mtx_congr fun i j hi hj=>?_
  show entL [unionOf a b] s i j=entL [a,b] s i j
  have e0:entL [unionOf a b] s i j=entA (unionOf a b).arcs s i j:=by
   simp only [entL]
   rw [if_pos (show i < (unionOf a b).st from hi),if_pos (show j < (unionOf a b).st from hj)]
  rw [e0]
  show entA (formA _) s i j=_
  rw [entA_form,entA_app,entA_moved,entA_moved,if_pos ⟨Nat.zero_le _,Nat.zero_le _⟩,Nat.sub_zero,Nat.sub_zero]
  have oa:=entA_out (l:=a.arcs) (n:=a.st) (s:=s) (i:=i) (j:=j) fun x hx=>⟨(ha.arc x hx).1,(ha.arc x hx).2.1⟩
  simp only [entL]
  by_cases hi1:i < a.st <;> by_cases hj1:j < a.st
  ·rw [if_pos hi1,if_pos hj1,if_neg (by omega),Rat.add_zero]
  ·rw [if_pos hi1,if_neg hj1,if_neg (by omega),oa (.inr (by omega)),Rat.add_zero]
  ·rw [if_neg hi1,if_pos hj1,if_neg (by omega),oa (.inl (by omega)),Rat.add_zero]
  ·rw [if_neg hi1,if_neg hj1,if_pos (by omega),oa (.inl (by omega)),Rat.zero_add,if_pos (show i - a.st < b.st by omega),if_pos (show j - a.st < b.st by omega)]
 have en:(machL [unionOf a b]).n=(machL [a,b]).n:=by show sizeL _=sizeL _;rw [size_one,size_two];rfl
 have ev:vecM (machL [unionOf a b]) w=vecM (machL [a,b]) w:=by
  have es:stepM (machL [unionOf a b])=stepM (machL [a,b]):=by
   funext v s
   unfold stepM entM
   rw [em,en]
  unfold vecM
  rw [es]
  congr 1
  show (a.ini ++ b.ini) ++ []=a.ini ++ (b.ini ++ [])
  rw [List.append_nil,List.append_nil]
 unfold serA wtM dotM
 rw [en,ev,show (machL [a,b]).n=a.st+b.st from size_two,show (machL [a]).n=a.st from size_one,show (machL [b]).n=b.st from size_one,sumN_app]
 have f1:∀ i,i < a.st→vf (machL [unionOf a b]).fin i=vf (machL [a]).fin i:=fun i hi=>by
  show ((a.fin ++ b.fin) ++ []).getD i 0=(a.fin ++ []).getD i 0
  rw [List.append_nil,List.append_nil,List.getD_eq_getElem?_getD,List.getElem?_append_left (by rw [ha.fin];exact hi),← List.getD_eq_getElem?_getD]
 have f2:∀ i,vf (machL [unionOf a b]).fin (a.st+i)=vf (machL [b]).fin i:=fun i=>by
  show ((a.fin ++ b.fin) ++ []).getD (a.st+i) 0=(b.fin ++ []).getD i 0
  rw [List.append_nil,List.append_nil,List.getD_eq_getElem?_getD,List.getElem?_append_right (by rw [ha.fin];omega),ha.fin,Nat.add_sub_cancel_left,← List.getD_eq_getElem?_getD]
 congr 1
 ·exact sumN_congr fun i hi=>by rw [show vf (vecM (machL [a,b]) w) i=vf (vecM (machL [a]) w) i from h1 i hi,f1 i hi]
 ·exact sumN_congr fun i hi=>by rw [show vf (vecM (machL [a,b]) w) (a.st+i)=vf (vecM (machL [b]) w) i from h2 i hi,f2 i]
end
end Go.AL

set_option linter.unusedVariables false
set_option linter.unusedSimpArgs false
namespace Go.AL
open Go Go.BigFrame
noncomputable def eqA (a b:Au):Option (List Int):=firstNZ (machL [a,b])
noncomputable def zeA (a:Au):Option (List Int):=firstNZ (machL [a])
noncomputable def rkA (a:Au):Nat:=rankF a.sym (serA a)
section
variable {a b c:Au} {w:List Int} {q:Rat}
theorem sub0_eq {x y:Rat} (h:x - y=0):x=y:=by
 rw [← Rat.sub_add_cancel (a:=x) (b:=y),h,Rat.zero_add]
theorem k_one:(machL [a]).k=a.sym:=machL_k
theorem k_two:(machL [a,b]).k=a.sym:=machL_k
theorem eqA_first (ha:a.Ok) (hb:b.Ok) (hs:a.sym=b.sym) (h:eqA a b=some w):InW a.sym w∧serA a w≠serA b w∧(∀ u,InW a.sym u→slx u w < 0→serA a u=serA b u)∧w.length < a.st+b.st:=by
 have ok:=mach_ok2 ha hb
 have hl:=firstNZ_len ok h
 have hf:=firstNZ_ans ok
 rw [show firstNZ (machL [a,b])=some w from h] at hf
 obtain ⟨f1,f2,f3⟩:=hf
 rw [k_two] at f1 f3
 refine ⟨f1,fun e=>f2 ?_,fun u hu hlt=>?_,by rwa [show (machL [a,b]).n=a.st+b.st from size_two] at hl⟩
 ·rw [ser_two ha hb hs f1,e,Rat.sub_self]
 ·have:=f3 u hu hlt
  rw [ser_two ha hb hs hu] at this
  exact sub0_eq this
theorem rkA_spec (a:Au):RankT (tabF a.sym (serA a)) (rkA a):=by
 have:=rank_mach (machL [a])
 rw [k_one] at this
 exact this
theorem rkA_le (a:Au):rkA a≤a.st:=by
 have:=rank_le (machL [a])
 rw [k_one,show (machL [a]).n=a.st from size_one] at this
 exact this
end
end Go.AL

set_option linter.unusedVariables false
set_option linter.unusedSimpArgs false
namespace Go.AL
open Go Go.BigFrame
def modI (k n:Int):Nat:=(k % n).toNat
def numN (v:Int):Int:=v % 13 - 6
def numD (v:Int):Int:=1+IntKind.i64.wrap (v.tdiv 13) % 3
def numQ (v:Int):Rat:=((numN v:Int):Rat) / ((numD v:Int):Rat)
structure MModel where
 st:Int
 ini:List Int
 fin:List Int
 arcs:List Int
instance:Inhabited MModel:=⟨⟨0,[],[],[]⟩⟩
def stOf (m:MModel) (most:Nat):Nat:=1+modI (IntKind.i64.wrap (m.st - 1)) most
def endW9 (l:List Int) (i one:Nat):Rat:=if i < l.length then numQ (l.getD i 0) else if i=one then 1 else 0
def arcOf (l:List Int) (sym n g:Nat):Arc9:=⟨modI (l.getD (4 * g) 0) n,1+modI (l.getD (4 * g+1) 0) sym,modI (l.getD (4 * g+2) 0) n,numQ (l.getD (4 * g+3) 0)⟩
def groups (l:List Int):Nat:=min (l.length / 4) 10
def autoOf (m:MModel) (sym most:Nat):Au:=⟨sym,stOf m most,(List.range (stOf m most)).map fun i=>endW9 m.ini i 0,(List.range (stOf m most)).map fun i=>endW9 m.fin i (stOf m most - 1),(List.range (groups m.arcs)).map (arcOf m.arcs sym (stOf m most))⟩
section
variable {m:MModel} {sym most:Nat} {k v:Int} {l:List Int}
theorem modI_lt {n:Nat} (k:Int) (h:1≤n):modI k n < n:=by
 have h1:=Int.emod_lt_of_pos k (show (0:Int) < n by omega)
 have h2:=Int.emod_nonneg k (show (n:Int)≠0 by omega)
 unfold modI
 omega
theorem modI_int {n:Nat} (k:Int) (h:1≤n):(modI k n:Int)=k % n:=by
 have h2:=Int.emod_nonneg k (show (n:Int)≠0 by omega)
 unfold modI
 omega
theorem numN_le (v:Int):-6≤numN v∧numN v≤6:=by unfold numN;omega
theorem numD_le (v:Int):1≤numD v∧numD v≤3:=by unfold numD;omega
theorem numQ_sz (v:Int):sz (numQ v)≤1:=by
 have h1:=numN_le v
 have h2:=numD_le v
 exact div_sz (by omega) (by omega) (by omega)
theorem endW9_sz (l:List Int) (i one:Nat):sz (endW9 l i one)≤1:=by
 unfold endW9
 split
 ·exact numQ_sz _
 ·split
  ·rw [sz_one];exact Nat.le_refl _
  ·rw [sz_zero];exact Nat.le_refl _
theorem stOf_le (h:1≤most):1≤stOf m most∧stOf m most≤most:=by
 have:=modI_lt (IntKind.i64.wrap (m.st - 1)) h
 unfold stOf
 omega
theorem auto_ok (hs:1≤sym) (h:1≤most):(autoOf m sym most).Ok:=by
 have hst:=stOf_le (m:=m) h
 refine ⟨hs,by simp [autoOf],by simp [autoOf],fun x hx=>?_⟩
 obtain ⟨g,_,rfl⟩:=List.mem_map.1 hx
 have h1:=modI_lt (m.arcs.getD (4 * g) 0) hst.1
 have h2:=modI_lt (m.arcs.getD (4 * g+1) 0) hs
 have h3:=modI_lt (m.arcs.getD (4 * g+2) 0) hst.1
 refine ⟨h1,h3,?_,?_⟩
 ·show 1≤1+modI _ _;omega
 ·show 1+modI _ _≤sym;omega
structure Au.Sz (a:Au) (B N:Nat):Prop where
 ini:Small B a.ini
 fin:Small B a.fin
 arc:∀ x,x ∈ a.arcs→sz x.q≤B
 num:a.arcs.length≤N
theorem auto_sz:(autoOf m sym most).Sz 1 10:=by
 refine ⟨fun q hq=>?_,fun q hq=>?_,fun x hx=>?_,?_⟩
 ·obtain ⟨i,_,rfl⟩:=List.mem_map.1 hq;exact endW9_sz ..
 ·obtain ⟨i,_,rfl⟩:=List.mem_map.1 hq;exact endW9_sz ..
 ·obtain ⟨g,_,rfl⟩:=List.mem_map.1 hx;exact numQ_sz _
 ·show ((List.range (groups m.arcs)).map _).length≤10
  rw [List.length_map,List.length_range]
  exact Nat.min_le_right ..
end
def letterOf (q:Rat):Au:=⟨2,2,[1,0],[0,1],[⟨0,1,1,q⟩]⟩
theorem letter_ok (q:Rat):(letterOf q).Ok:=⟨(by decide:1≤2),rfl,rfl,fun x hx=>by rw [List.mem_singleton.1 hx];exact ⟨(by decide:0 < 2),(by decide:1 < 2),(by decide:1≤1),(by decide:1≤2)⟩⟩
end Go.AL

set_option linter.unusedVariables false
set_option linter.unusedSimpArgs false
namespace Go.AL
open Go Go.BigFrame
abbrev dW (q:Rat):D:=.ag [dB (ofQ q).neg,u32s (ofQ q).num,u32s (ofQ q).den,dI 0,dB false,dU 0,.sl [],.sl []]
abbrev vW (q:Rat):V:=.ag [.d (dB (ofQ q).neg),.d (u32s (ofQ q).num),.d (u32s (ofQ q).den),.d (dI 0),.d (dB false),.d (dU 0),.d (.sl []),.d (.sl [])]
abbrev dWs (l:List Rat):D:=.sl (l.map dW)
abbrev dArc (x:Arc9):D:=.ag [dI x.f,dI x.l,dI x.t,dB (ofQ x.q).neg,u32s (ofQ x.q).num,u32s (ofQ x.q).den,dI 0,dB false,dU 0,.sl [],.sl []]
abbrev vArc (x:Arc9):V:=.ag [.d (dI x.f),.d (dI x.l),.d (dI x.t),.d (dB (ofQ x.q).neg),.d (u32s (ofQ x.q).num),.d (u32s (ofQ x.q).den),.d (dI 0),.d (dB false),.d (dU 0),.d (.sl []),.d (.sl [])]
abbrev dArcs (l:List Arc9):D:=.sl (l.map dArc)
abbrev vRing:V:=.ag [.d (dI 1),.d (.sl [])]
abbrev vAu (a:Au):V:=.ag [.d (dI 1),.d (.sl []),.d (dI a.sym),.d (dI a.st),.d (dWs a.ini),.d (dWs a.fin),.d (dArcs a.arcs)]
abbrev vMach (m:Mach):V:=.ag [.d (dQs m.ini),.d (dQs m.fin),.d (.sl (m.mats.map dQss))]
abbrev dRow (m:Mach) (w:List Int):D:=.ag [ints w,dQs (vecM m w)]
abbrev vRow (m:Mach) (w:List Int):V:=.ag [.d (ints w),.d (dQs (vecM m w))]
section
variable {q:Rat} {x:Arc9}
theorem vle_w0:VLe (.ag [.d (dB false),.mt,.mt,.d (dI 0),.d (dB false),.d (dU 0),.mt,.mt]) (vW 0):=by
 unfold vW;rw [ofQ_zero]
 exact VLe.ag (.cons (VLe.refl _) (.cons VLe.mt (.cons VLe.mt (.cons (VLe.refl _) (.cons (VLe.refl _) (.cons (VLe.refl _) (.cons VLe.mt (.cons VLe.mt .nil))))))))
theorem vle_wq:VLe (.ag [.d (dB (ofQ q).neg),.d (u32s (ofQ q).num),.d (u32s (ofQ q).den),.d (dI 0),.d (dB false),.d (dU 0),.mt,.mt]) (vW q) :=
 VLe.ag (.cons (VLe.refl _) (.cons (VLe.refl _) (.cons (VLe.refl _) (.cons (VLe.refl _) (.cons (VLe.refl _) (.cons (VLe.refl _) (.cons VLe.mt (.cons VLe.mt .nil))))))))
end
end Go.AL
