/- A list in the last field of a box, sealed where it stands. The little logic: calls that are handed all that is owned and may panic; functions that defer a call which recovers. The little logic: regions that draw their order, where several operations that are not calm may come first: order by order. -/
import Derived.Test.YtaecpjgmcffliaaGreatDoorSy1
import Derived.Test.YtaecpjgmcffliaaGreatDoorAl4
import Derived.Defers
import Derived.Recover
import Derived.Test.YtaecpjgmcffliaaGreatDoorGra
import Derived.Test.YtaecpjgmcffliaaGreatDoorLx
import Derived.Test.YtaecpjgmcffliaaGreatDoorSy3
set_option linter.unusedSimpArgs false
set_option linter.unusedVariables false
set_option maxRecDepth 10000
namespace Go.Al
theorem cH.offsz {sz sz':Nat} {v:AV} {rows r2:List (List AV)} {H:Hp} (h:cH sz v rows H) {b:Nat} (hb:H b=some (.rows sz' r2)) (hs:sz'≠sz):Al.off v b:=fun s n e=>by
 rcases h with⟨rfl,_⟩|⟨b',rfl,hH⟩
 ·cases e
 cases e;rw[hb]at hH;cases hH;exact hs rfl
theorem cH.cells {sz:Nat} {v:AV} {rows:List (List AV)} {H:Hp} (h:cH sz v rows H):cellsOf v=some [v]:=by rcases h with⟨rfl,_⟩|⟨b,rfl,_⟩<;>rfl
theorem cH.one1 {sz:Nat} {v:AV} {rows:List (List AV)} {H:Hp} (h:cH sz v rows H):one v=true:=by rcases h with⟨rfl,_⟩|⟨b,rfl,_⟩<;>rfl
theorem iC {E:fR} {F:Nat→Prop} {ds:List (Option Nat)} {Q:dN} {d:Option Nat} {rest:List Oper} {fr:Fr} {H:Hp} {sz by':Nat} {v:AV} {rows ys:List (List AV)} (hv:cH sz v rows H) (hb:(rows.length+ys.length) *by'≤140737488355328) (hF: ∀b,v= .osl sz b rows.length→F b)
  (h: ∀v' H',cH sz v' (rows++ys) H'→(∀b o,H b=some o→v≠ .osl sz b rows.length→H' b=some o)→(∀b,off v b→H b≠none→off v' b)→cI E F ds Q rest (dF fr d v') H'):Oh E F ds Q d rest fr H (some (sz,by',v,ys)):=by
 rcases hv with⟨rfl,rfl⟩|⟨b,rfl,hH⟩
 ·simp only[List.nil_append,List.length_nil,Nat.zero_add]at h hb
  refine⟨hb,fun e=>h _ _ (.inl ⟨rfl,e⟩) (fun _ _ hb _=>hb) (fun b h1 _=>h1),fun e b hbn=>h _ _ (.inr ⟨b,rfl,by simp [upd]⟩) (fun b' o hb' _=>?_) fun b1 _ hn s n e1=>?_⟩
  ·have :b'≠b:=fun c=>by rw[c,hbn]at hb';cases hb'
   simp [upd,this,hb']
  cases e1;exact hn hbn
 simp only[Oh,hH];refine⟨trivial,trivial,trivial,hb,hF b rfl,fun b' hb'=>?_⟩;refine h _ _ (.inr ⟨b',by simp,by simp [upd]⟩) (fun b'' o h1 h2=>?_) fun b1 h1 hn s n e1=>?_
 ·have n1:b''≠b:=fun c=>h2 (by rw[c])
  have n2:b''≠b':=fun c=>by
   rcases hb' with e|e
   ·exact n1 (c.trans e)
   rw[←c,h1]at e;cases e
  simp [upd,n1,n2,h1]
 cases e1;rcases hb' with e|e
 ·exact h1 _ _ (by rw[e])
 exact hn e
end Go.Al
namespace Go.Al
section
variable {E : fR} {F : Nat → Prop} {ds : List (Option Nat)} {Q : dN} {d : Option Nat} {rest : List Oper} {fr : Fr} {H : Hp} {g : FuncId} {args : List AV}
end
theorem rK.mono {E:fR} {g:FuncId} {args:List AV} {H:Hp} {R R':vK→Hp→Prop} (h:rK E g args H R) (hr: ∀ae H',R ae H'→R' ae H'):rK E g args H R':=
 ⟨h.1,fun w0 S0 vs h1 h2=>(h.2 w0 S0 vs h1 h2).mono fun _ _ ⟨ae,H',S',a1,a2,a3⟩=>⟨ae,H',S',a1,a2,hr _ _ a3⟩⟩
theorem bB.run {R:vK→Hp→Prop} {v:AV} {H:Hp} (h:R (.ret v) H):bB R v H:=bB.self h
end Go.Al
namespace Go.Al
open Go
section
variable {E : fR} {N : Nat} {Φ : gD → Exit → Act → World → Prop} {fr : Fr} {H : Hp}
end
end Go.Al
namespace Go.Al
open Go
section
variable {E : fR} {R : vK → Hp → Prop}
end
end Go.Al
namespace Go.Al
def Vg (v x:AV):Prop:= ∀s b n,x= .osl s b n→off v b
theorem bX {v x:AV} (h:Bg x=true):Vg v x:=fun s b n e=>by subst e;cases h
theorem Qk {b sz n:Nat} {l:List (List AV)} {x:AV} (h:Vg (.osl sz b n) x):frz b sz l x=x:=by
 cases x<;>try rfl
 rename_i s' b' n';rw[Qj,if_neg];rintro⟨rfl,_,_⟩;exact h _ _ _ rfl _ _ rfl
theorem sE {b sz n:Nat} {l:List (List AV)}: ∀{xs:List AV},(∀x∈xs,Vg (.osl sz b n) x)→xs.map (frz b sz l)=xs
 |[],_=>rfl
 |x::xs,h=>by rw[List.map_cons,Qk (h x (by simp)),sE fun y hy=>h y (by simp [hy])]
theorem Be {b sz n:Nat} {l:List (List AV)}: ∀{xs:List (List AV)},(∀r∈xs, ∀x∈r,Vg (.osl sz b n) x)→xs.map (fun x=>x.map (frz b sz l))=xs
 |[],_=>rfl
 |x::xs,h=>by rw[List.map_cons,sE (h x (by simp)),Be fun y hy=>h y (by simp [hy])]
theorem eI.mid {v w:AV} (h:dQ v w) (post:List AV): ∀l:List AV,eI (l++v::post) (l++w::post)
 |[]=>eI.cons h (SubR_self post)
 |x::l=>eI.cons (dQ.refl x) (eI.mid h post l)
where SubR_self: ∀l:List AV,eI l l
 |[]=> .nil
 |x::l=> .cons (dQ.refl x) (SubR_self l)
theorem fW {E:fR} {N:Nat} {Q:dN} {c:Code} {fr:Fr} {H:Hp} {b0 sz sz':Nat} {qC post:List AV} {v:AV} {rows:List (List AV)} (hv:cH sz v rows H) (h0:H b0=some (.rows sz' [qC++v::post])) (hp: ∀x∈qC,Vg v x) (hq: ∀x∈post,Vg v x) (ho:off v b0)
  (h: ∀fr' H',(∀j,Vg v (fr j)→fr' j=fr j)→H' b0=some (.rows sz' [qC++ .isl sz rows::post])→(∀b s l,b≠b0→off v b→(∀r∈l, ∀x∈r,Vg v x)→H b=some (.rows s l)→H' b=some (.rows s l))→jV E N c Q fr' H'):jV E N c Q fr H:=by
 rcases hv with⟨rfl,rfl⟩|⟨b,rfl,hb⟩
 ·exact Ut h0 (eI.mid (dQ.nsl sz) post qC) (h fr _ (fun _ _=>rfl) (aS _ _ _) (fun b s l hne _ _ hb=>by rw[dK _ _ hne];exact hb))
 refine zS hb (h _ _ (fun j hj=>Qk hj) ?_ fun b1 s l hne ho1 hf hb1=>?_)
 ·show(if b0=b then none else(H b0).map (Ub b sz rows))=_
  rw[if_neg (fun e=>ho _ _ (by rw[e])),h0];simp only[Option.map_some,Bf,List.map_cons,List.map_nil,List.map_append,E2,sE hp,sE hq]
 show(if b1=b then none else(H b1).map (Ub b sz rows))=_;rw[if_neg (fun e=>ho1 _ _ (by rw[e])),hb1];simp only[Option.map_some,Bf,Be hf]
end Go.Al
namespace Go.Al
section
variable {E : fR} {F : Nat → Prop} {ops : Array Oper} {Q : dN} {fr : Fr} {H : Hp}
end
end Go.Al
namespace Go.Proofs.YtaecpjgmcffliaaGreatDoor
open Go.Al
theorem bS {H:Hp} {b c sz sz':Nat} {l l':List (List AV)} (h:H b=some (.rows sz l)) (h':H c=some (.rows sz' l')) (hs:sz≠sz'):b≠c:=fun e=>by subst e;rw[h]at h';cases h';exact hs rfl
theorem cH.kp {sz sz':Nat} {v:AV} {rows r:List (List AV)} {H H2:Hp} {b:Nat} (h:cH sz v rows H) (hb:H b=some (.rows sz' r)) (hs:sz'≠sz) (hk: ∀x o,x≠b→H x=some o→H2 x=some o):cH sz v rows H2:=by
 rcases h with h|⟨c,e,hc⟩
 ·exact .inl h
 exact .inr ⟨c,e,hk c _ (fun e=>bS hb hc hs e.symm) hc⟩
theorem P1 {T:List dC} {n:Nat} {t:dC} (h:T[n]?=some t):(T.map dC.row)[n]?=some [.int .i64 t.kind, .str t.text, .int .u32 t.num, .int .i64 t.pos]:=nL _ h
theorem Zt {T:List dC} {n:Nat} {t:dC} (h:T[n]?=some t):cB T n=if t.kind=3∨t.kind=4 then t.text else []:=by rw[cB,h]
theorem Ss {T:List dC} {n:Nat} (h: ¬n<T.length):cB T n=[]:=by rw[cB,List.getElem?_eq_none (by omega)]
end Go.Proofs.YtaecpjgmcffliaaGreatDoor
namespace Go.Proofs.YtaecpjgmcffliaaGreatDoor
open Go.Al
theorem Ee {n:Nat} (h:n≤1000000):IntKind.wrap .i64 ((n:Int)+1)=((n+1:Nat):Int):=by rw[aV _ (by omega)];omega
end Go.Proofs.YtaecpjgmcffliaaGreatDoor
namespace Go.Proofs.YtaecpjgmcffliaaGreatDoor
open Go.Al
end Go.Proofs.YtaecpjgmcffliaaGreatDoor
namespace Go.Proofs.YtaecpjgmcffliaaGreatDoor
open Go.Al
def cZ (x:Ex):AV:= .agg [.int .i64 x.kind, .int .i64 x.op, .int .u32 x.num, .str x.name, .isl 5 (x.kids.map Ex.row)]
def dT (l:List Ex):AV:= .isl 5 (l.map Ex.row)
end Go.Proofs.YtaecpjgmcffliaaGreatDoor
namespace Go.Proofs.YtaecpjgmcffliaaGreatDoor
open Go.Al
end Go.Proofs.YtaecpjgmcffliaaGreatDoor
namespace Go.Proofs.YtaecpjgmcffliaaGreatDoor
open Go.Al
theorem G2 (acc:List Ex) (a:Ex):(acc++[a]).map Ex.row=acc.map Ex.row++[[.int .i64 a.kind, .int .i64 a.op, .int .u32 a.num, .str a.name, .isl 5 (a.kids.map Ex.row)]]:=by
 rw[List.map_append,List.map_cons,List.map_nil,Ex.row_eq]
end Go.Proofs.YtaecpjgmcffliaaGreatDoor
namespace Go.Proofs.YtaecpjgmcffliaaGreatDoor
open Go.Al
def dI (s:Sm):AV:= .agg [.int .i64 s.kind, .str s.name, .isl 5 (s.es.map Ex.row), .isl 5 (s.thn.map Sm.row), .isl 5 (s.els.map Sm.row)]
def eH (l:List Sm):AV:= .isl 5 (l.map Sm.row)
theorem Hf (acc:List Sm) (s:Sm):(acc++[s]).map Sm.row=acc.map Sm.row++[[.int .i64 s.kind, .str s.name, .isl 5 (s.es.map Ex.row), .isl 5 (s.thn.map Sm.row), .isl 5 (s.els.map Sm.row)]]:=by
 rw[List.map_append,List.map_cons,List.map_nil,Sm.row_eq]
end Go.Proofs.YtaecpjgmcffliaaGreatDoor
namespace Go.Proofs.YtaecpjgmcffliaaGreatDoor
open Go.Al
end Go.Proofs.YtaecpjgmcffliaaGreatDoor
namespace Go.Proofs.YtaecpjgmcffliaaGreatDoor
open Go.Al
def P6 (T:List dC) (nm:cN) (ps:List cN) (w:Bool) (ls:List cN) (c:Nat):PR Fu:=(lP T [] c).bind fun b c=> .ok ⟨nm,ps,ls,w,b⟩ c
def Y3 (T:List dC) (nm:cN) (ps:List cN) (m:Nat):PR Fu:=(cR T [41] m).bind fun _ m=>(cR T [123] (if cB T m=lV then m+1 else m)).bind fun _ c=>(Ic T [] c).bind fun ls c=>P6 T nm ps (decide (cB T m=lV)) ls c
theorem P4 (T:List dC) (n:Nat):zO T n=(cR T rL n).bind fun _ m=>(eX T 1 m).bind fun t m=>(cR T [40] m).bind fun _ m=>(if iF T m=1 then jF T m else .ok [] m:PR (List cN)).bind fun ps m=>Y3 T t.text ps m:=rfl
theorem bR (l:List cN):((l.map bG).all fun r=>r.all one)=true:=Zw (fun _=>rfl) l
def jY (f:Fu):AV:= .agg [.str f.name, .isl 1 (f.params.map bG), .isl 1 (f.locs.map bG), .bool f.word, .isl 5 (f.body.map Sm.row)]
end Go.Proofs.YtaecpjgmcffliaaGreatDoor
namespace Go.Al
theorem cH.app2 {sz sz':Nat} {v v':AV} {rows rows':List (List AV)} {H H':Hp} (h2:cH sz' v' rows' H) (h1:cH sz v rows H) (hs:sz'≠sz) (hk: ∀b o,H b=some o→v≠ .osl sz b rows.length→H' b=some o):cH sz' v' rows' H':=by
 rcases h2 with h|⟨c,e,hc⟩
 ·exact .inl h
 exact .inr ⟨c,e,hk c _ hc (h1.nb' hc hs)⟩
theorem Qa {sz sz':Nat} {v x:AV} {rows rows':List (List AV)} {H:Hp} (h:cH sz v rows H) (hx:cH sz' x rows' H) (hs:sz'≠sz):Vg v x:=fun s b n e=>by
 subst e;rcases hx with⟨e,_⟩|⟨c,e,hc⟩
 ·cases e
 cases e;exact h.offsz hc hs
theorem cH.nil (sz:Nat) (H:Hp):cH sz .nsl [] H:= .inl ⟨rfl,rfl⟩
theorem cH.thru {sz sz' sz0:Nat} {v v':AV} {rows rows' r:List (List AV)} {H H':Hp} {b0:Nat} (h2:cH sz' v' rows' H) (h1:cH sz v rows H) (hs:sz'≠sz) (h0:H b0=some (.rows sz0 r)) (hs0:sz'≠sz0) (hf:(rows'.all fun r=>r.all Bg)=true)
  (hk: ∀b s l,b≠b0→Al.off v b→(∀r∈l, ∀x∈r,Vg v x)→H b=some (.rows s l)→H' b=some (.rows s l)):cH sz' v' rows' H':=by
 rcases h2 with h|⟨c,e,hc⟩
 ·exact .inl h
 refine .inr ⟨c,e,hk c _ _ (fun e=>?_) (h1.offsz hc hs) (fun r hr x hx=>?_) hc⟩
 ·subst e;rw[h0]at hc;cases hc;exact hs0 rfl
 simp only[List.all_eq_true]at hf;exact bX (hf r hr x hx)
theorem Iq (l:List Ar):((l.map Ar.row).all fun r=>r.all Bg)=true:=by
 simp only[List.all_map,List.all_eq_true];exact fun x _=>rfl
end Go.Al
namespace Go.Proofs.YtaecpjgmcffliaaGreatDoor
open Go.Al
def As (T:List dC) (va:List cN×List Ar) (m:Nat):PR Pg:=(zO T m).bind fun g m=>(xJ T [g] m).bind fun fs m=> .ok ⟨va.1,va.2,fs⟩ m
theorem Zm (T:List dC) (n:Nat):uH T n=(uL T [] [] n).bind (As T):=rfl
def BY (p:Pg):AV:= .agg [.isl 1 (p.vars.map bG), .isl 2 (p.arrs.map Ar.row), .isl 5 (p.funs.map Fu.row)]
end Go.Proofs.YtaecpjgmcffliaaGreatDoor
namespace Go.Proofs.YtaecpjgmcffliaaGreatDoor
open Go.Al
end Go.Proofs.YtaecpjgmcffliaaGreatDoor
namespace Go.Proofs.YtaecpjgmcffliaaGreatDoor
open Go.Al
theorem N1 (sz:Nat) (rows:List (List AV)):Al.dQ (BL sz rows) (.isl sz rows):=by
 cases rows with
 |nil=>exact dQ.nsl sz
 |cons=>exact dQ.refl _
theorem kP: ∀(s:cN) (k i:Nat) (x:Nat×Int),iP s k i= .error x→x.2≠0
 |[],k,i,x,h=>by cases k<;>simp [iP]at h
 |c::r,k+1,i,x,h=>by
  rw[iP]at h;exact kP r k (i+1) x h
 |c::r,0,i,x,h=>by
  rw[iP]at h;split at h
  ·exact kP r 0 (i+1) x h
  split at h
  ·exact kP r _ (i+1) x h
  split at h
  ·cases hl:iP r ((eA (c::r)).1.text.length - 1) (i+1)with
   |ok l=>rw[hl]at h;cases h
   |error y=>rw[hl]at h;cases h;exact kP r _ _ _ hl
  rename_i h1;cases h;exact h1
theorem B0 {s:cN} {i:Nat} {e:Int} (h:tK s= .error (i,e)):e≠0:=by
 unfold tK at h;split at h
 ·cases h;decide
 exact kP _ _ _ _ h
end Go.Proofs.YtaecpjgmcffliaaGreatDoor
namespace Go.Proofs.YtaecpjgmcffliaaGreatDoor
open Go.Al
def Rx (r:Pg×Int×Int):AV:= .tup [r.1.av, .int .i64 r.2.1, .int .i64 r.2.2]
theorem N7:cY [.nsl, .nsl, .nsl] X5.row:=cY.cons (dQ.nsl 1) (cY.cons (dQ.nsl 2) (cY.cons (dQ.nsl 5) (cY.refl _)))
end Go.Proofs.YtaecpjgmcffliaaGreatDoor
namespace Go.Proofs.YtaecpjgmcffliaaGreatDoor
open Go.Al
theorem Zk {s:cN} (hs:s.length≤1000000) {i:Nat} {e:Int} (h:tK s= .error (i,e)):cM cG 64 [.str s] (.tup [.nsl, .int .i64 (i:Nat), .int .i64 e]):=by
 have:=Hr s hs;rw[h]at this;exact this
theorem N5 {s:cN} (hs:s.length≤1000000) {T:List dC} (h:tK s= .ok T):cM cG 64 [.str s] (.tup [.isl 4 (T.map dC.row), .int .i64 0, .int .i64 0]):=by
 have:=Hr s hs;rw[h]at this;exact Su this (dQ.tup (cY.cons (N1 4 _) (cY.refl _)))
end Go.Proofs.YtaecpjgmcffliaaGreatDoor
