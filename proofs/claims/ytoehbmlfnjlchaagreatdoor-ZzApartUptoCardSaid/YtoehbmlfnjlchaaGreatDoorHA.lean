import Derived.Handy
import Derived.ArgAppend
import Derived.BigCall
import Derived.Test.YtoehbmlfnjlchaaGreatDoorU6
set_option linter.all false
set_option maxHeartbeats 10000000
set_option maxRecDepth 2000000
namespace Go.Proofs.YtoehbmlfnjlchaaGreatDoor
open Go Go.RowKit Go.Proofs Ab
theorem MO(w:World)(H:Nat→Prop):TJ w H:=fun g cs h=>by cases h
theorem bg{B:Nat}{e k n:Nat}{v:Value}{xs:List Value}{w w':World}(h:w.ownsRow B e k v n xs)(hb:∀q,v.ownBlock=some q→w'.heap[q]? =w.heap[q]?):w'.ownsRow B e k v n xs:=by
 refine⟨h.1,h.2.imp id fun⟨g,cap,cur,e1,h1,h2,h3⟩=>⟨g,cap,cur,e1,h1,?_,h3⟩⟩;rw[hb g (by rw[e1];rfl)];exact h2
theorem dC{B B' e k n:Nat}{v:Value}{xs:List Value}{w:World}(h:w.ownsRow B e k v n xs)(hB:B'≤B):w.ownsRow B' e k v n xs:=
 ⟨h.1,h.2.imp id fun⟨g,cap,cur,e1,h1,h2⟩=>⟨g,cap,cur,e1,Nat.le_trans hB h1,h2⟩⟩
theorem aB{w:World}{B e k n:Nat}{v:Value}{xs:List Value}(h:w.ownsRow B e k v n xs):∃a c,v= .slice a n c:=by
 rcases h.2 with ⟨rfl,rfl⟩|⟨g,cap,cur,rfl,_⟩<;>exact⟨_,_,rfl⟩
theorem kZ{w:World}{B e sz n:Nat}{v:Value}{xs:List Value}(h:w.ownsRow B e sz v n xs):blk v=v.ownBlock:=by
 rcases h.2 with ⟨rfl,_⟩|⟨g,cap,cur,rfl,_⟩<;>rfl
theorem zB{w:World}{B B' e e' k k' n n':Nat}{v v':Value}{xs xs':List Value}(h:w.ownsRow B e k v n xs)(h':w.ownsRow B' e' k' v' n' xs')(hne:e≠e'){q:Nat}(hq:v.ownBlock=some q):v'.ownBlock≠some q:=fun hq'=>by
 rcases h.2 with ⟨rfl,_⟩|⟨g,cap,cur,rfl,_,h1,_⟩
 ·cases hq
 ·rcases h'.2 with ⟨rfl,_⟩|⟨g',cap',cur',rfl,_,h2,_⟩
  ·cases hq'
  ·cases hq;cases hq';rw[h1]at h2;cases h2;exact hne rfl
theorem Bo{w:World}{B e sz n:Nat}{v:Value}{xs:List Value}{cs:List V}{H:Nat→Prop}(hsz:0<sz)(ho:w.ownsRow B e sz v n xs)(hr:aA w H xs cs)(hm:n≤maxLen)(hH:∀q,v.ownBlock=some q→H q):aO w H v (.l sz cs):=by
 have hl:cs.length=n*sz:=by rw[←hr.1];exact ho.1
 rcases ho.2 with ⟨rfl,rfl⟩|⟨g,cap,cur,rfl,h1,h2,h3,h4⟩
 ·have hcs:cs=[]:=List.eq_nil_of_length_eq_zero (by rw[hl];exact Nat.zero_mul _);subst hcs;exact .l none 0 0 sz [] (fun _=>undef) 0 0 hsz (Nat.zero_mul _).symm (Nat.zero_le _) (Nat.le_refl _) (.inl rfl) (fun j hj=>absurd hj (Nat.not_lt_zero j)) (fun j x hx=>by simp at hx)
 ·refine .l _ n cap sz cs (fun j=>xs[j]?.getD undef) g 0 hsz hl hm h3 (.inr ⟨rfl,hH g rfl⟩) (fun j hj=>?_) (fun j x hx=>?_)
  ·rw[Nat.zero_add,ho.cellAt j (by rw[←hl];exact hj),List.getElem?_eq_getElem (by rw[hr.1];exact hj)];rfl
  ·have hj:j<xs.length:=by rw[hr.1];exact(List.getElem?_eq_some_iff.1 hx).1
   rw[List.getElem?_eq_getElem hj];exact hr.2 j _ x (List.getElem?_eq_getElem hj) hx
theorem CV{w:World}{H:Nat→Prop}{ov:Nat→Option Value}(tm:Nat→Value):∀(l:List (Nat×V)),(∀p,p∈l→Rep w H ov (tm p.1) p.2)→∀t,Rep w H ov (tm t) (lk l t)
 |[],_,t=> .any _
 |(k,v)::r,h,t=>by
  unfold lk;split
  ·rename_i e;subst e;exact h (k,v) (.head _)
  ·exact CV tm r (fun p hp=>h p (.tail _ hp)) t
def Wv(a:List Nat):List Value:=a.map fun n:Nat=>Value.int .u64 (n:Int)
theorem CW{w:World}{H:Nat→Prop}(a:List Nat):aA w H (Wv a) (W a):=by
 refine⟨by simp[Wv,W],fun j v x h1 h2=>?_⟩;simp only[Wv,W,List.getElem?_map,Option.map_eq_some_iff]at h1 h2;obtain⟨n,h3,rfl⟩:=h1;obtain⟨m,h4,rfl⟩:=h2;rw[h3]at h4;cases h4;exact .i _ _
theorem Bv{w:World}{H:Nat→Prop}{a:List Nat}{xs:List Value}(h:aA w H xs (W a)):xs=Wv a:=by
 have hl:xs.length=a.length:=by rw[h.1,aU]
 refine List.ext_getElem? fun j=>?_
 rcases Nat.lt_or_ge j a.length with hj|hj
 ·have h1:xs[j]? =some xs[j]:=List.getElem?_eq_getElem om;have h2:(W a)[j]? =some (.i .u64 (a[j]:Int)):=by simp[W,hj]
  have h3:=h.2 j _ _ h1 h2;rw[h1];generalize xs[j]=v at h3;cases h3;simp[Wv,hj]
 ·rw[List.getElem?_eq_none om,List.getElem?_eq_none (by simp[Wv];exact hj)]
theorem c_of{w:World}{H:Nat→Prop}{L xs:List Value}(h:aA w H xs (L.map V.c)):xs=L:=by
 have hl:xs.length=L.length:=by rw[h.1,List.length_map]
 refine List.ext_getElem? fun j=>?_
 rcases Nat.lt_or_ge j L.length with hj|hj
 ·have h1:xs[j]? =some xs[j]:=List.getElem?_eq_getElem om;have h3:=h.2 j _ (.c L[j]) h1 (by simp[hj]);rw[h1,List.getElem?_eq_getElem hj];generalize xs[j]=v at h3;cases h3;rfl
 ·rw[List.getElem?_eq_none om,List.getElem?_eq_none hj]
theorem rV{w:World}{H:Nat→Prop}{L xs:List Value}{cs:List V}(h:aA w H xs (L.map V.c++cs)):∃ys,xs=L++ys∧aA w H ys cs:=by
 have hl:xs.length=L.length+cs.length:=by rw[h.1,List.length_append,List.length_map]
 refine⟨xs.drop L.length,?_,by rw[List.length_drop];omega,fun j v x h1 h2=>?_⟩
 ·have h4:xs.take L.length=L:=c_of (w:=w) (H:=H) ⟨by rw[List.length_take,List.length_map];omega,fun j v x h1 h2=>by
   rw[List.getElem?_take]at h1;split at h1
   ·rename_i hj;exact h.2 j v x h1 (by rw[List.getElem?_append_left (by rw[List.length_map];exact hj)];exact h2)
   ·cases h1⟩
  conv=>lhs;rw[←List.take_append_drop L.length xs,h4]
 ·rw[List.getElem?_drop]at h1;refine h.2 _ v x h1 ?_;rw[List.getElem?_append_right (by rw[List.length_map];omega),List.length_map,Nat.add_sub_cancel_left];exact h2
structure Bn(w:World)(b:Nat)(vl vf vu:Value)(Lv Fv Uv:List Value):Prop where
 box:∃cap,w.ownsRow 0 30 3 (.slice (some ⟨b,0,none⟩) 1 cap) 1 [vl,vf,vu]
 rl:w.ownsRow 0 22 1 vl Lv.length Lv
 rf:w.ownsRow 0 22 1 vf Fv.length Fv
 ru:w.ownsRow 0 22 1 vu Uv.length Uv
 lf:∀q,vl.ownBlock=some q→vf.ownBlock≠some q
 lu:∀q,vl.ownBlock=some q→vu.ownBlock≠some q
 fu:∀q,vf.ownBlock=some q→vu.ownBlock≠some q
def Bq(b:Nat)(vl vf vu:Value)(q:Nat):Prop:=q=b∨vl.ownBlock=some q∨vf.ownBlock=some q∨vu.ownBlock=some q
theorem Bn.lt{w:World}{b:Nat}{vl vf vu:Value}{Lv Fv Uv:List Value}(h:Bn w b vl vf vu Lv Fv Uv):∀q,Bq b vl vf vu q→q<w.heap.size:=fun q hq=>by
 rcases hq with rfl|hq|hq|hq
 ·obtain⟨cap,ho⟩:=h.box;exact(ho.lt q rfl).2
 ·exact(h.rl.lt q hq).2
 ·exact(h.rf.lt q hq).2
 ·exact(h.ru.lt q hq).2
theorem Bn.keep{w w':World}{b:Nat}{vl vf vu:Value}{Lv Fv Uv:List Value}(h:Bn w b vl vf vu Lv Fv Uv)(hb:∀q,Bq b vl vf vu q→w'.heap[q]? =w.heap[q]?):Bn w' b vl vf vu Lv Fv Uv:=
 ⟨by obtain⟨cap,ho⟩:=h.box;exact⟨cap,bg ho fun q hq=>by cases hq;exact hb b (.inl rfl)⟩,bg h.rl fun q hq=>hb q (.inr (.inl hq)),bg h.rf fun q hq=>hb q (.inr (.inr (.inl hq))),bg h.ru fun q hq=>hb q (.inr (.inr (.inr hq))),h.lf,h.lu,h.fu⟩
theorem Bn.below{w w':World}{b:Nat}{vl vf vu:Value}{Lv Fv Uv:List Value}(h:Bn w b vl vf vu Lv Fv Uv)(hb:Below w.heap.size w w'):Bn w' b vl vf vu Lv Fv Uv:=h.keep fun q hq=>hb.block q (h.lt q hq)
theorem box_ne{w:World}{b:Nat}{vl vf vu:Value}{Lv Fv Uv:List Value}(h:Bn w b vl vf vu Lv Fv Uv):vl.ownBlock≠some b∧vf.ownBlock≠some b∧vu.ownBlock≠some b:=by
 obtain⟨cap,ho⟩:=h.box;have key:∀(v:Value) (n:Nat) (xs:List Value),w.ownsRow 0 22 1 v n xs→v.ownBlock≠some b:=fun v n xs h'=>zB ho h' dc rfl
 exact⟨key _ _ _ h.rl,key _ _ _ h.rf,key _ _ _ h.ru⟩
def bO(nl nf nu:Nat)(ls fs us:List V):List (Nat×Option Ob):=[(0,some ⟨30,3,[.ow 1 1 nl,.ow 1 2 nf,.ow 1 3 nu],true,true⟩),(1,some ⟨22,1,ls,true,false⟩),(2,some ⟨22,1,fs,true,false⟩),(3,some ⟨22,1,us,true,false⟩)]
theorem Hr{nl nf nu:Nat}{ls fs us:List V}{i:Nat}{o:Ob}(h:lo (bO nl nf nu ls fs us) i=some o):i<4:=by
 simp only[bO,lo]at h;split at h
 ·omega
 ·split at h
  ·omega
  ·split at h
   ·omega
   ·split at h
    ·omega
    ·cases h
def bOv(b cap:Nat)(vl vf vu:Value)(i:Nat):Option Value:=match i with
 |0=>some (.slice (some ⟨b,0,none⟩) 1 cap)
 |1=>some vl
 |2=>some vf
 |3=>some vu
 |_=>none
theorem Bn.mem{w:World}{H:Nat→Prop}{ks:List (Nat×Value)}{b:Nat}{vl vf vu:Value}{Lv Fv Uv:List Value}{ls fs us:List V}(h:Bn w b vl vf vu Lv Fv Uv)(hlt:∀q,H q→q<w.heap.size)(hH:∀q,Bq b vl vf vu q→¬H q)
 (hl:aA w H Lv ls) (hf:aA w H Fv fs) (hu:aA w H Uv us) (cl:∀x,x∈ls→x.cell=true) (cf:∀x,x∈fs→x.cell=true) (cu:∀x,x∈us→x.cell=true) (ml:Lv.length≤1000000) (mf:Fv.length≤1000000) (mu:Uv.length≤1000000):
 ∃cap,Mem w ⟨H,Bq b vl vf vu,ks⟩ w H (bOv b cap vl vf vu) (lo (bO Lv.length Fv.length Uv.length ls fs us)):=by
 obtain⟨cap,hbox⟩:=h.box
 refine⟨cap,?_⟩
 have mx:∀n:Nat,n≤1000000→n≤maxLen:=fun n h=>by unfold maxLen;omega
 have bl:=kZ h.rl
 have bf:=kZ h.rf
 have bu:=kZ h.ru
 obtain⟨x1,x2,x3⟩:=box_ne h
 refine⟨aY.refl _ _,MO _ _,hlt,fun b h _=> .inl h,fun id o ho=>?_,fun i j oi oj vi vj q hij hi hj sV nM hb=>?_⟩
 ·have hk:=Hr ho;match id,hk with
  |0,_=>
   cases ho;refine⟨_,rfl,fun x hx=> .inr ⟨rfl,?_⟩,fun q hq=>(by cases hq;exact .inr (.inl rfl)),fun q hq=>(by cases hq;exact⟨fun h'=>absurd h' (hH b (.inl rfl)),fun h'=>by cases h'⟩),.inl ⟨rfl,.inr ⟨by show 0<3;decide,1,_,hbox,⟨rfl,fun j v x h1 h2=>?_⟩,by unfold maxLen;omega⟩⟩⟩
   ·simp only[List.mem_cons,List.not_mem_nil,or_false]at hx;rcases hx with rfl|rfl|rfl<;>rfl
   ·match j,h1,h2 with
    |0,h1,h2=>cases h1;cases h2;exact jL h.rl (mx _ ml) rfl
    |1,h1,h2=>cases h1;cases h2;exact jL h.rf (mx _ mf) rfl
    |2,h1,h2=>cases h1;cases h2;exact jL h.ru (mx _ mu) rfl
  |1,_=>cases ho;exact⟨_,rfl,dM.row h.rl Nat.one_pos hl cl (mx _ ml) (fun q hq=>hH q (.inr (.inl (bl▸hq)))) (fun q hq=> .inr (.inr (.inl (bl▸hq)))) _⟩
  |2,_=>cases ho;exact⟨_,rfl,dM.row h.rf Nat.one_pos hf cf (mx _ mf) (fun q hq=>hH q (.inr (.inr (.inl (bf▸hq))))) (fun q hq=> .inr (.inr (.inr (.inl (bf▸hq))))) _⟩
  |3,_=>cases ho;exact⟨_,rfl,dM.row h.ru Nat.one_pos hu cu (mx _ mu) (fun q hq=>hH q (.inr (.inr (.inr (bu▸hq))))) (fun q hq=> .inr (.inr (.inr (.inr (bu▸hq))))) _⟩
 ·have h1:=Hr hi;have h2:=Hr hj;match i,j,h1,h2 with
  |0,0,_,_=>exact absurd rfl hij
  |1,1,_,_=>exact absurd rfl hij
  |2,2,_,_=>exact absurd rfl hij
  |3,3,_,_=>exact absurd rfl hij
  |0,1,_,_=>cases sV;cases nM;cases hb;rw[bl];exact x1
  |0,2,_,_=>cases sV;cases nM;cases hb;rw[bf];exact x2
  |0,3,_,_=>cases sV;cases nM;cases hb;rw[bu];exact x3
  |1,0,_,_=>cases sV;cases nM;rw[bl]at hb;intro e;cases e;exact x1 hb
  |2,0,_,_=>cases sV;cases nM;rw[bf]at hb;intro e;cases e;exact x2 hb
  |3,0,_,_=>cases sV;cases nM;rw[bu]at hb;intro e;cases e;exact x3 hb
  |1,2,_,_=>cases sV;cases nM;rw[bl]at hb;rw[bf];exact h.lf q hb
  |1,3,_,_=>cases sV;cases nM;rw[bl]at hb;rw[bu];exact h.lu q hb
  |2,3,_,_=>cases sV;cases nM;rw[bf]at hb;rw[bu];exact h.fu q hb
  |2,1,_,_=>cases sV;cases nM;rw[bf]at hb;rw[bl];exact fun e=>h.lf q e hb
  |3,1,_,_=>cases sV;cases nM;rw[bu]at hb;rw[bl];exact fun e=>h.lu q e hb
  |3,2,_,_=>cases sV;cases nM;rw[bu]at hb;rw[bf];exact fun e=>h.fu q e hb
end Go.Proofs.YtoehbmlfnjlchaaGreatDoor
namespace Go.Proofs.YtoehbmlfnjlchaaGreatDoor
open Go Go.RowKit Go.Proofs Ab
def Ht:=an @aU (an @Nat.div_one (an @Nat.mul_one (an @bI (an @gU (an @fK (an @wi (an @xA (an @Bool.false_and @gQ))))))))
theorem Bn.of{w0 w:World}{H0:HS}{H:Nat→Prop}{ov:Nat→Option Value}{N:Nat}{a:Act}{s:St}{b nl nf nu i1 i2 i3:Nat}{ls fs us:List V}(hc:Conc w0 H0 w H ov N a s)(k0:a.tmps.getD 0 undef= .pointer (some ⟨b,0,none⟩))(g0:s.get 0= .pt 0 0)
 (o0:s.ob 0=some ⟨30,3,[.ow 1 i1 nl,.ow 1 i2 nf,.ow 1 i3 nu],true,true⟩) (o1:s.ob i1=some ⟨22,1,ls,true,false⟩) (o2:s.ob i2=some ⟨22,1,fs,true,false⟩) (o3:s.ob i3=some ⟨22,1,us,true,false⟩) (d12:i1≠i2) (d13:i1≠i3) (d23:i2≠i3):
 ∃vl vf vu xl xf xu,(∃cap,w.ownsRow 0 30 3 (.slice (some ⟨b,0,none⟩) 1 cap) 1 [vl,vf,vu])∧(w.ownsRow 0 22 1 vl nl xl∧aA w H xl ls)∧(w.ownsRow 0 22 1 vf nf xf∧aA w H xf fs)∧(w.ownsRow 0 22 1 vu nu xu∧aA w H xu us)∧
  (∀q,vl.ownBlock=some q→vf.ownBlock≠some q)∧(∀q,vl.ownBlock=some q→vu.ownBlock≠some q)∧(∀q,vf.ownBlock=some q→vu.ownBlock≠some q)∧∀q,Bq b vl vf vu q→¬H q∧(w0.heap.size≤q∨H0.e q):=by
 have he:=hc.env 0
 rw[k0,g0]at he
 obtain⟨b',u,eb,hu,hbu⟩:=he.jY
 cases eb
 obtain⟨u',hu',hor⟩:=hc.mem.obj 0 _ o0
 rw[hu]at hu';cases hu'
 obtain⟨vl,vf,vu,hbx,hrs⟩:∃vl vf vu,(∃cap,w.ownsRow 0 30 3 (.slice (some ⟨b,0,none⟩) 1 cap) 1 [vl,vf,vu])∧kL w H ov [vl,vf,vu] [.ow 1 i1 nl,.ow 1 i2 nf,.ow 1 i3 nu]:=by
  have three:∀l:List Value,l.length=3→∃x y z,l=[x,y,z]:=fun l hl=>by
   match l,hl with
   |[x,y,z],_=>exact⟨x,y,z,rfl⟩
  rcases hor.bd with ⟨_,⟨b2,cur,rfl,_,hh,hrs⟩|⟨_,n,xs,hown,hrs,_⟩⟩|⟨h',_⟩
  ·cases hbu;obtain⟨x,y,z,hl⟩:=three cur.toList hrs.1;rw[hl]at hrs;have hs3:cur.size=3:=by rw[←Array.length_toList,hl];rfl
   exact⟨x,y,z,⟨1,rfl,.inr ⟨_,1,cur,rfl,Nat.zero_le _,hh,Nat.le_refl _,by unfold maxLen;omega,hs3,by rw[hl];rfl⟩⟩,hrs⟩
  ·obtain⟨x,y,z,rfl⟩:=three xs hrs.1;have h1:=hown.1;obtain rfl:n=1:=by simp at h1;omega
   rcases hown.2 with ⟨h2,h3⟩|⟨g,cap,cur,rfl,h3⟩
   ·cases h3
   ·cases hbu;exact⟨x,y,z,⟨cap,hown⟩,hrs⟩
  ·cases h'
 have row:∀(v:Value) (i n:Nat) (cs:List V),Rep w H ov v (.ow 1 i n)→s.ob i=some ⟨22,1,cs,true,false⟩→∃xs,w.ownsRow 0 22 1 v n xs∧aA w H xs cs∧ov i=some v∧∀q,v.ownBlock=some q→¬H q∧(w0.heap.size≤q∨H0.e q):=fun v i n cs hv ho=>by
  obtain⟨ba,cap,e,ho',hm,hcp,ha⟩:=hv.fH;obtain⟨u2,hu2,hor2⟩:=hc.mem.obj i _ ho;rw[ho']at hu2;cases hu2;rcases hor2.bd with ⟨h',_⟩|⟨_,_,n',xs,hown,hra,hnm⟩
  ·cases h'
  ·have hb:=kZ hown;have hnn:n'=n:=by
    rcases hown.2 with ⟨h1,h2⟩|⟨g',cap',cur',h1,_⟩
    ·rw[e]at h1;cases h1;exact h2
    ·rw[e]at h1;cases h1;rfl
   subst hnn;exact⟨xs,hown,hra,ho',fun q hq=>⟨fun h=>(by have:=(hor2.fz q (hb▸hq)).1 h;cases this),hor2.ow q (hb▸hq)⟩⟩
 obtain⟨xl,l1,l2,l3,l4⟩:=row vl i1 nl ls (hrs.2 0 vl _ rfl rfl) o1
 obtain⟨xf,f1,f2,f3,f4⟩:=row vf i2 nf fs (hrs.2 1 vf _ rfl rfl) o2
 obtain⟨xu,u1,u2,u3,u4⟩:=row vu i3 nu us (hrs.2 2 vu _ rfl rfl) o3
 have bl:=kZ l1
 have bf:=kZ f1
 have bu:=kZ u1
 refine⟨vl,vf,vu,xl,xf,xu,hbx,⟨l1,l2⟩,⟨f1,f2⟩,⟨u1,u2⟩,fun q hq=>bf▸hc.mem.sep i1 i2 _ _ _ _ q d12 o1 o2 l3 f3 (bl.trans hq),fun q hq=>bu▸hc.mem.sep i1 i3 _ _ _ _ q d13 o1 o3 l3 u3 (bl.trans hq),fun q hq=>bu▸hc.mem.sep i2 i3 _ _ _ _ q d23 o2 o3 f3 u3 (bf.trans hq),fun q hq=>?_⟩
 rcases hq with rfl|hq|hq|hq
 ·exact⟨fun h=>(by have:=(hor.fz _ hbu).1 h;cases this),hor.ow _ hbu⟩
 ·exact l4 q hq
 ·exact f4 q hq
 ·exact u4 q hq
def xX:Nat→AC→AC
 |0,A=>A
 |n+1,A=>xX n A.p2
theorem mk_z(m:Nat):(List.replicate m [V.i .u64 0]).flatten=W (List.replicate m 0):=by
 induction m with
 |zero=>rfl
 |succ n ih=>rw[List.replicate_succ,List.flatten_cons,ih,List.replicate_succ];rfl
theorem mk_in(a:List Nat):setAt (W (List.replicate (a.length+5) 0)) 0 (W a)=W (a++List.replicate 5 0):=by
 have key:∀(X A R Y:List V),A.length=R.length→setAt (X++(A++Y)) X.length R=X++(R++Y):=by
  intro X A R Y;induction R generalizing X A with
  |nil=>intro h;cases A with|nil=>rfl|cons a A=>simp at h
  |cons r R ih=>
   intro h;cases A with
   |nil=>simp at h
   |cons a A=>
    have e:(X++(a::A++Y)).set X.length r=(X++[r])++(A++Y):=sy;show setAt ((X++(a::A++Y)).set X.length r) (X.length+1) R=_;rw[e,show X.length+1=(X++[r]).length from sy,ih (X++[r]) A (by simpa using h)];simp
 have h2:=key [] (W (List.replicate a.length 0)) (W a) (W (List.replicate 5 0)) (by rw[aU,aU,List.length_replicate]);simp only[List.nil_append,List.length_nil]at h2;rw[←List.replicate_append_replicate,show W (List.replicate a.length 0++List.replicate 5 0)=W (List.replicate a.length 0)++W (List.replicate 5 0)from by simp[W],h2];simp[W]
def a5:AC:= .seq (.reg [qr 4 (.mv (.k .nl))]) (.seq (.reg [qm 6 1,qr 7 (.len (.t 6)),qr 8 (.bin .add (.t 7) (.k (.i .i64 5))),qr 9 (.mk 54 1 8 [(.i .u64 0)] (.t 8) (.t 8)),qm 5 9]) (.seq (.reg [qm 10 5,qm 11 1,qr 12 (.Fq 1 (.t 10) (.t 11))]) (.seq (.sG [(18,23),(23,28),(19,28),(24,28),(18,30),(23,30),(19,30),(24,30),(28,30),(23,35),(19,35),(24,35),(30,35),(29,35),(31,35),(35,37),(35,38),(35,39)] [qm 13 0,qm 14 0,qm 15 0,qm 16 0,qr 17 (.nc (.t 16)),qr 18 (.dQ 0 (.t 17)),qr 19 (.ld false 1 (.t 18)),qm 20 5,qm 21 1,qr 22 (.len (.t 21)),qr 23 (.sub 1 (.t 20) none (some (.t 22))),qr 24 (.nz 22 1 1 [(.l 1 [])] [(0,(.t 23))]),qr 25 (.app 22 1 24 (.t 19) (.t 24)),qm 26 0,qr 27 (.nc (.t 26)),qr 28 (.dQ 1 (.t 27)),qr 29 (.ld false 1 (.t 28)),qm 30 5,qr 31 (.nz 22 1 1 [(.l 1 [])] [(0,(.t 30))]),qr 32 (.app 22 1 24 (.t 29) (.t 31)),qm 33 0,qr 34 (.nc (.t 33)),qr 35 (.dQ 2 (.t 34)),qr 36 (.ld false 1 (.t 35)),qr 37 (.nz 54 1 0 [] []),qm 38 5,qr 39 (.app 54 1 8 (.t 37) (.t 38)),qr 40 (.nz 22 1 1 [(.l 1 [])] [(0,(.t 39))]),qr 41 (.app 22 1 24 (.t 36) (.t 40)),qr 42 (.nc (.t 13)),qr 43 (.dQ 0 (.t 42)),qn (.stk (.t 43) (.t 25)),qr 44 (.nc (.t 14)),qr 45 (.dQ 1 (.t 44)),qn (.stk (.t 45) (.t 32)),qr 46 (.nc (.t 15)),qr 47 (.dQ 2 (.t 46)),qn (.stk (.t 47) (.t 41))]) (.seq (.reg [qm 48 5,qm 49 1,qr 50 (.len (.t 49)),qr 51 (.sub 1 (.t 48) none (some (.t 50))),qm 4 51]) (.ret)))))
theorem Qz(a:List Nat)(la:a.length≤1000000000):
 qi (aF Tryz.prog J0) (ik Tryz.prog) (a5.p1.seq (a5.p2.p1.seq a5.p2.p2.p1)) (fun ex s=>ex= .normal∧∃i,s.get 5= .ow 1 i (a.length+5)∧s.ob i=some ⟨54,1,W (a++List.replicate 5 0),true,false⟩)
  ⟨[(1,.l 1 (W a))],[],0⟩:=by
 have hz:=mk_z (a.length+5)
 have hmk:=mk_in a
 have ht:(W a).take (a.length+5)=W a:=List.take_of_length_le (by rw[aU];omega)
 have hl:(W (List.replicate (a.length+5) 0)).length=a.length+5:=by rw[aU,List.length_replicate]
 have w1:IntKind.i64.wrap ((a.length:Nat)+5:Int)=((a.length+5:Nat):Int):=by rw[wi om];rfl
 apply fE
 unfold a5
 simp only[ak,aH,qm,qr,qn,AC.p1,AC.p2]
 refine aP (ai @hz (ai @w1 @Ht)) ?_
 refine aP (ai @hl (ai @ht (ai @hmk @Ht))) ?_
 exact⟨trivial,_,rfl,rfl⟩
def inB(n:Nat)(ls fs us:List V)(g cap:Nat)(a:List Nat)(s:St):Prop:=
 ∃i1 i2 i3,s.ob 0=some ⟨30,3,[.ow 1 i1 (n+1),.ow 1 i2 (n+1),.ow 1 i3 (n+1)],true,true⟩∧i1≠i2∧i1≠i3∧i2≠i3∧
  s.ob i1=some ⟨22,1,ls++[.kn (.slice (some ⟨g,0,none⟩) a.length cap) (.l 1 (W a))],true,false⟩∧s.ob i2=some ⟨22,1,fs++[.kn (.slice (some ⟨g,0,none⟩) (a.length+5) cap) (.l 1 (W (a++List.replicate 5 0)))],true,false⟩∧s.ob i3=some ⟨22,1,us++[.l 1 (W (a++List.replicate 5 0))],true,false⟩∧
  s.get 4= .kn (.slice (some ⟨g,0,none⟩) a.length cap) (.l 1 (W a))∧s.get 0= .pt 0 0
theorem QA(n:Nat)(ls fs us:List V)(g cap:Nat)(a:List Nat)(hn:n≤1000)(la:a.length≤1000000000)(hcap:0<cap):
 qi (aF Tryz.prog J0) (ik Tryz.prog) (xX 3 a5) (fun ex s=>(ex= .normal∨ex= .ret)∧inB n ls fs us g cap a s)
  ⟨[(0,.pt 0 0),(1,.l 1 (W a)),(5,.kn (.slice (some ⟨g,0,none⟩) (a.length+5) cap) (.l 1 (W (a++List.replicate 5 0))))],bO n n n ls fs us,4⟩:=by
 have hl2:(W (a++List.replicate 5 0)).length=a.length+5:=by rw[aU,List.length_append,List.length_replicate]
 have hs:(W (a++List.replicate 5 0)).take a.length=W a:=by
  rw[show W (a++List.replicate 5 0)=W a++W (List.replicate 5 0)from by simp[W],List.take_append_of_le_length (by rw[aU];exact Nat.le_refl _),List.take_of_length_le (by rw[aU];exact Nat.le_refl _)]
 have hex:(∃g',some (⟨g,0,none⟩:Addr)=some ⟨g',0,none⟩)=True:=eq_true ⟨g,rfl⟩
 have hle:((a.length:Nat):Int)≤((a.length+5:Nat):Int):=om
 apply fE
 unfold a5
 simp only[ak,aH,qm,qr,qn,AC.p1,AC.p2,xX,bO]
 refine aP (ai @hle (ai @hex (ai @hl2 (ai @hs @Ht)))) ?_
 exact⟨.inr trivial,_,_,_,rfl,dc,dc,dc,rfl,rfl,rfl,rfl,rfl⟩
end Go.Proofs.YtoehbmlfnjlchaaGreatDoor
namespace Go.Proofs.YtoehbmlfnjlchaaGreatDoor
open Go Go.RowKit Go.Proofs Ab
theorem zC{w0 w:World}{H0:HS}{H:Nat→Prop}{ov:Nat→Option Value}{N:Nat}{a:Act}{s:St}{t i n e sz:Nat}{cs:List V}(hc:Conc w0 H0 w H ov N a s)(g:s.get t= .ow sz i n)(ho:s.ob i=some ⟨e,sz,cs,true,false⟩):
 ∃xs,w.ownsRow 0 e sz (a.tmps.getD t undef) n xs∧aA w H xs cs∧ov i=some (a.tmps.getD t undef)∧∀q,(a.tmps.getD t undef).ownBlock=some q→¬H q∧(w0.heap.size≤q∨H0.e q):=by
 have he:=hc.env t
 rw[g]at he
 generalize a.tmps.getD t undef=v at*
 obtain⟨ba,cap,e1,ho',hm,hcp,ha⟩:=he.fH
 obtain⟨u,hu,hor⟩:=hc.mem.obj i _ ho
 rw[ho']at hu;cases hu
 rcases hor.bd with ⟨h',_⟩|⟨_,_,n',xs,hown,hra,hnm⟩
 ·cases h'
 ·have hb:=kZ hown;have hnn:n'=n:=by
   rcases hown.2 with ⟨h1,h2⟩|⟨g',cap',cur,h1,_⟩
   ·rw[e1]at h1;cases h1;exact h2
   ·rw[e1]at h1;cases h1;rfl
  subst hnn;exact⟨xs,hown,hra,ho',fun q hq=>⟨fun h=>(by have:=(hor.fz q (hb▸hq)).1 h;cases this),hor.ow q (hb▸hq)⟩⟩
def InR(w:World)(b:Nat)(vl vf vu:Value)(Lv Fv Uv:List Value)(a:List Nat)(e:Ending)(w':World):Prop:=
 ∃g cap lI lJ lK u Hu,e= .returned (.slice (some ⟨g,0,none⟩) a.length cap)∧w.heap.size≤g∧aY w (Bq b vl vf vu) w'∧w'.ownsRow w.heap.size 54 1 (.slice (some ⟨g,0,none⟩) (a.length+5) cap) (a.length+5) (Wv (a++List.replicate 5 0))∧
  Bn w' b lI lJ lK (Lv++[.slice (some ⟨g,0,none⟩) a.length cap]) (Fv++[.slice (some ⟨g,0,none⟩) (a.length+5) cap]) (Uv++[u])∧aO w' Hu u (.l 1 (W (a++List.replicate 5 0)))∧(∀q,Hu q→q<w'.heap.size∧¬Bq b lI lJ lK q)∧(∀q,Bq b lI lJ lK q→Bq b vl vf vu q∨w.heap.size≤q)∧¬Bq b lI lJ lK g
theorem QB{w:World}{b n:Nat}{vl vf vu va:Value}{Lv Fv Uv:List Value}{a:List Nat}{Ha:Nat→Prop}(hb:Bn w b vl vf vu Lv Fv Uv)(bH:∀q,Ha q→q<w.heap.size)(hHB:∀q,Bq b vl vf vu q→¬Ha q)(hva:aO w Ha va (.l 1 (W a)))(l1:Lv.length=n)(l2:Fv.length=n)(l3:Uv.length=n)(cl:∀v,v∈Lv→v.oneCell'=true)(cf:∀v,v∈Fv→v.oneCell'=true)(cu:∀v,v∈Uv→v.oneCell'=true)(hn:n≤1000)(la:a.length≤1000000000):
 Calls Tryz.prog 5 #[.pointer (some ⟨b,0,none⟩),va] w (InR w b vl vf vu Lv Fv Uv a):=by
 refine QC Tryz.func5 rfl (vs:=[.pointer (some ⟨b,0,none⟩),va]) (by show 2≤_;decide) (H:=Ha) (E:=fun _=>False) (ks:=[(0,.pointer (some ⟨b,0,none⟩)),(1,va)]) (Tt:=fun _=>none)
  (s0:=⟨[(1,.l 1 (W a))],[],0⟩) ⟨aY.refl _ _,MO _ _,bH,fun b h _=> .inl h,fun id o h=>(by cases h),fun i j oi oj vi vj q _ h=>(by cases h)⟩ (fun m v h=>?ks) (fun k hk=>?env) (fun k hk=>?rest) (fun _ _=>rfl) (fun act iG=>?_)
 case ks=>
  simp only[List.mem_cons,Prod.mk.injEq,List.not_mem_nil,or_false]at h;rcases h with ⟨rfl,rfl⟩|⟨rfl,rfl⟩
  ·exact⟨sy,rfl⟩
  ·exact⟨sy,rfl⟩
 case env=>
  match k,hk with
  |0,_=>exact .any _
  |1,_=>exact .base hva
 case rest=>
  match k,hk with
  |k+2,_=>rfl
 have nk:∀(h:Nat→Prop) (e:Nat→Prop) (A:AC),Ur 0 A=true→Ur 1 A=true→yL ⟨h,e,[(0,.pointer (some ⟨b,0,none⟩)),(1,va)]⟩ A:=fun h e A h0 h1 m v hm=>by
  simp only[List.mem_cons,Prod.mk.injEq,List.not_mem_nil,or_false]at hm;rcases hm with ⟨rfl,_⟩|⟨rfl,_⟩
  ·exact h0
  ·exact h1
 refine tN (A1:=a5.p1) (A2:=a5.p2.p1.seq a5.p2.p2.p1) dB (by kernel_rfl) (nk _ _ _ rfl rfl) iG (Qz a la) ?_
 intro y1 w1 G1 X3 s1 hv1 hc1
 refine tN (A1:=a5.p2.p1) (A2:=a5.p2.p2.p1) dB (by kernel_rfl) (nk _ _ _ rfl rfl) hc1 hv1 ?_
 intro y2 w2 G2 X4 s2 hv2 hc2
 refine Jp (A1:=a5.p2.p2.p1) dB (by kernel_rfl) (nk _ _ _ rfl rfl) hc2 hv2 ?_
 intro y3 w3 G3 ov3 s3 hK hc3
 obtain⟨i,g5,o5⟩:=hK
 obtain⟨x5,O5,R5,V5,B5⟩:=zC hc3 g5 o5
 have hB3:Below w.heap.size w w3:=hc3.mem.bel.below (fun _ h=>h)
 have hz3:=hc3.Dp
 have hd3:=hc3.Am
 have kp3:=hc3.kp
 obtain⟨g,cap,e5⟩:∃g cap,y3.tmps.getD 5 undef= .slice (some ⟨g,0,none⟩) (a.length+5) cap:=by
  rcases O5.2 with ⟨_,h⟩|⟨g,cap,cur,h,_⟩
  ·omega
  ·exact⟨g,cap,h⟩
 have hg:w.heap.size≤g:=(B5 g (by rw[e5];rfl)).2.elim id False.elim
 have hx5:=Bv R5
 subst hx5
 rw[e5]at O5
 have hg3:g<w3.heap.size:=(O5.lt g rfl).2
 have O5':w3.ownsRow w.heap.size 54 1 (.slice (some ⟨g,0,none⟩) (a.length+5) cap) (a.length+5) (Wv (a++List.replicate 5 0)):=ownB O5 (fun q hq=>by cases hq;exact hg)
 have hcap:0<cap:=by
  rcases O5.2 with ⟨h,_⟩|⟨_,_,_,h,_,_,h2,_⟩
  ·cases h
  ·cases h;omega
 clear iG hc1 hc2 hc3 hv1 hv2 g5 o5 V5
 have hb3:=hb.below hB3
 have cc:∀{L:List Value},(∀v,v∈L→v.oneCell'=true)→∀x,x∈L.map V.c→x.cell=true:=fun h x hx=>by
  obtain⟨v,hv,rfl⟩:=List.mem_map.1 hx;exact h v hv
 have rc:∀{L:List Value} {H:Nat→Prop},aA w3 H L (L.map V.c):=fun {L H}=>⟨sy,fun j v x h1 h2=>by
  simp only[List.getElem?_map,h1,Option.map_some,Option.some.injEq]at h2;subst h2;exact .c v⟩
 have hltB:=hb.lt
 obtain⟨capb,hM⟩:=hb3.mem (H:=fun q=>Ha q∨q=g) (ks:=[(0,.pointer (some ⟨b,0,none⟩)),(1,va)]) (fun q hq=>hq.elim (fun h=>by have:=bH q h;have:=hB3.size;omega) (fun h=>by rw[h];exact hg3))
  (fun q hq h=>h.elim (hHB q hq) (fun h=>by have:=hltB q hq;omega)) rc rc rc (cc cl) (cc cf) (cc cu) om om om
 rw[l1,l2,l3]at hM
 refine wp_mono (iW (J:=J0) (w0:=w3) (H0:=⟨fun q=>Ha q∨q=g,Bq b vl vf vu,[(0,.pointer (some ⟨b,0,none⟩)),(1,va)]⟩) (N:=Tryz.f5.ntmps) dB (fun w' _=>trivial) _ (xX 3 a5) (by kernel_rfl) (nk _ _ _ rfl rfl) _ _ y3 w3 _ _ ⟨hM,hz3,hd3,kp3,?env2,fun id hid=>?Oe⟩ (QA n (Lv.map V.c) (Fv.map V.c) (Uv.map V.c) g cap a hn la hcap)) fun ex a' w' hq=>?_
 case env2=>
  refine CV (fun t=>y3.tmps.getD t undef) _ fun p hp=>?_
  simp only[List.mem_cons,List.not_mem_nil,or_false]at hp;rcases hp with rfl|rfl|rfl
  ·show Rep _ _ _ (y3.tmps.getD 0 undef) _;rw[kp3 0 _ (.head _)];exact .pt 0 0 b _ rfl rfl
  ·show Rep _ _ _ (y3.tmps.getD 1 undef) _;rw[kp3 1 _ (.tail _ (.head _))];exact .base (hva.mono (fun q hq=> .inl hq) (fun q hq=>hB3.block q (bH q hq)))
  ·show Rep _ _ _ (y3.tmps.getD 5 undef) _;rw[e5];exact .base (.kn _ _ (Bo Nat.one_pos O5 (CW _) (by unfold maxLen;omega) (fun q hq=>by cases hq;exact .inr rfl)))
 case Oe=>
  match id,hid with
  |k+4,_=>rfl
 have last:∀(s':St) (H':Nat→Prop) (dh:Nat→Option Value),inB n (Lv.map V.c) (Fv.map V.c) (Uv.map V.c) g cap a s'→Conc w3 ⟨fun q=>Ha q∨q=g,Bq b vl vf vu,[(0,.pointer (some ⟨b,0,none⟩)),(1,va)]⟩ w' H' dh Tryz.f5.ntmps a' s'→
  a'.defers=[]∧∃r,(results Tryz.f5 a'.tmps).run Tryz.prog w'= .ok r w'∧InR w b vl vf vu Lv Fv Uv a (.returned r) w':=by
  rintro s' H' dh ⟨i1,i2,i3,o0,d12,d13,d23,o1,o2,o3,g4,g0⟩ hc'
  obtain⟨lI,lJ,lK,xl,xf,xu,hbx,⟨L1,L2⟩,⟨F1,F2⟩,⟨U1,U2⟩,s12,s13,s23,hq2⟩:=Bn.of hc' (hc'.kp 0 _ (.head _)) g0 o0 o1 o2 o3 d12 d13 d23
  have one:∀{ys:List Value} {x:V},aA w' H' ys [x]→∃y,ys=[y]∧aO w' H' y x:=fun {ys x} h=>by
   match ys,h.1 with
   |[y],_=>exact⟨y,rfl,h.2 0 y x rfl rfl⟩
  obtain⟨yl,rfl,hyl⟩:=rV L2
  obtain⟨zl,rfl,hzl⟩:=one hyl
  obtain⟨rfl,_⟩:=(Rep.up (ov:=fun _=>none) hzl).BO
  obtain⟨yf,rfl,hyf⟩:=rV F2
  obtain⟨zf,rfl,hzf⟩:=one hyf
  obtain⟨rfl,_⟩:=(Rep.up (ov:=fun _=>none) hzf).BO
  obtain⟨yu,rfl,hyu⟩:=rV U2
  obtain⟨u,rfl,hzu⟩:=one hyu
  have he4:=hc'.env 4
  rw[g4]at he4
  obtain⟨e4,_⟩:=he4.BO
  have hbel:=hc'.mem.bel
  have hs3:=hB3.size
  refine⟨hc'.Am,_,bM (show dm Tryz.f5.results.toList=some [4]from rfl) _ _,g,cap,lI,lJ,lK,u,H',?_,hg,⟨hbel.os.trans hB3.os,hbel.tape.trans hB3.tape,hbel.output.trans hB3.output,by have:=hbel.size;omega,fun q hq hne=>(hbel.block q om hne).trans (hB3.block q hq)⟩,
   bg O5' (fun q hq=>hbel.block q (O5'.lt q hq).2 (fun h=>by cases hq;have:=hltB g h;omega)),⟨hbx,by rw[List.length_append,l1];exact L1,by rw[List.length_append,l2];exact F1,by rw[List.length_append,l3];exact U1,s12,s13,s23⟩,hzu,fun q hq=>⟨hc'.mem.pV q hq,fun h=>(hq2 q h).1 hq⟩,fun q hq=>(hq2 q hq).2.elim (fun h=> .inr om) .inl,fun h=>?_⟩
  ·show Ending.returned (a'.tmps.getD 4 undef)=_;rw[e4]
  ·rcases(hq2 g h).2 with h|h
   ·omega
   ·have:=hltB g h;omega
 cases ex with
 |normal=>obtain⟨s',H',dh,hq,hc'⟩:=hq;exact⟨.inl rfl,last s' H' dh hq.2 hc'⟩
 |ret=>obtain⟨s',H',dh,hq,hc'⟩:=hq;exact⟨.inr rfl,last s' H' dh hq.2 hc'⟩
 |exit i=>obtain⟨s',H',dh,hq,hc'⟩:=hq;exact absurd hq.1 sy
 |goto l=>exact hq.elim
 |panic ch=>exact hq.elim
 |outgrown=>exact hq.elim
end Go.Proofs.YtoehbmlfnjlchaaGreatDoor
namespace Go.Proofs.YtoehbmlfnjlchaaGreatDoor
open Go Go.RowKit Go.Proofs Ab
def bz_AP4:=an @aU (an @Nat.div_one (an @Nat.mul_one (an @bI (an @gU (an @fK (an @wi (an @xA (an @Bool.false_and @gQ))))))))
theorem QD(vs:List Value):(vs.map V.c).length=vs.length:=List.length_map _
theorem mc_get(vs:List Value)(i:Nat)(h:i<vs.length):(vs.map V.c).getD i .un= .c (vs.getD i undef):=by
 simp[List.getD_eq_getElem?_getD,h]
def a29:AC:= .seq (.reg [qr 4 (.mv (.k (.i .i64 0)))]) (.blk 0 (.loop (.seq (.seq (.reg [qm 5 4,qm 6 1,qr 7 (.len (.t 6)),qr 8 (.bin .lss (.t 5) (.t 7))]) (.cond (.t 8) (.skip) (.exit 0))) (.seq (.blk 1 (.sG [(16,21),(21,26),(17,26),(22,26),(21,32),(17,32),(22,32),(27,32),(28,32)] [qm 11 0,qm 12 0,qm 13 0,qm 14 0,qr 15 (.nc (.t 14)),qr 16 (.dQ 0 (.t 15)),qr 17 (.ld false 1 (.t 16)),qm 18 1,qm 19 4,qr 20 (.idx 1 (.t 18) (.t 19)),qr 21 (.ld false 1 (.t 20)),qr 22 (.nz 22 1 1 [(.l 1 [])] [(0,(.t 21))]),qr 23 (.app 22 1 24 (.t 17) (.t 22)),qm 24 0,qr 25 (.nc (.t 24)),qr 26 (.dQ 1 (.t 25)),qr 27 (.ld false 1 (.t 26)),qr 28 (.nz 22 1 1 [(.l 1 [])] [(0,(.k .nl))]),qr 29 (.app 22 1 24 (.t 27) (.t 28)),qm 30 0,qr 31 (.nc (.t 30)),qr 32 (.dQ 2 (.t 31)),qr 33 (.ld false 1 (.t 32)),qr 34 (.nz 22 1 1 [(.l 1 [])] [(0,(.k .nl))]),qr 35 (.app 22 1 24 (.t 33) (.t 34)),qr 36 (.nc (.t 11)),qr 37 (.dQ 0 (.t 36)),qn (.stk (.t 37) (.t 23)),qr 38 (.nc (.t 12)),qr 39 (.dQ 1 (.t 38)),qn (.stk (.t 39) (.t 29)),qr 40 (.nc (.t 13)),qr 41 (.dQ 2 (.t 40)),qn (.stk (.t 41) (.t 35))])) (.reg [qm 9 4,qr 10 (.bin .add (.t 9) (.k (.i .i64 1))),qm 4 10])))))
def abk:AC→AC
 | .blk _ c=>c
 |c=>c
def alp:AC→AC
 | .loop c=>c
 |c=>c
def outK(n:Nat)(ls fs us:List V)(v:Value)(s:St):Prop:=
 ∃i1 i2 i3,s.ob 0=some ⟨30,3,[.ow 1 i1 (n+1),.ow 1 i2 (n+1),.ow 1 i3 (n+1)],true,true⟩∧i1≠i2∧i1≠i3∧i2≠i3∧
  s.ob i1=some ⟨22,1,ls++[.c v],true,false⟩∧s.ob i2=some ⟨22,1,fs++[.l 1 []],true,false⟩∧s.ob i3=some ⟨22,1,us++[.l 1 []],true,false⟩∧s.get 0= .pt 0 0
theorem QE(n i:Nat)(ls fs us:List V)(vs:List Value)(hn:n≤3000)(hv:vs.length≤1000)(hi:i<vs.length)(hc:V.cell (.c (vs.getD i undef))=true):
 qi (aF Tryz.prog J0) (ik Tryz.prog) (alp (abk a29.p2)).p2.p1 (fun ex s=>ex= .normal∧outK n ls fs us (vs.getD i undef) s)
  ⟨[(0,.pt 0 0),(1,.l 1 (vs.map V.c)),(4,.i .i64 (i:Int))],bO n n n ls fs us,4⟩:=by
 have hl:=QD vs
 have hg:=mc_get vs i hi
 apply fE
 unfold a29
 simp only[ak,aH,qm,qr,qn,AC.p1,AC.p2,abk,alp,bO]
 refine aP (ai @hc (ai @hg (ai @hl @bz_AP4))) ?_
 exact⟨trivial,_,_,_,rfl,dc,dc,dc,rfl,rfl,rfl,rfl⟩
end Go.Proofs.YtoehbmlfnjlchaaGreatDoor
namespace Go.Proofs.YtoehbmlfnjlchaaGreatDoor
open Go Go.RowKit Go.Proofs Ab
def q1:Code→Code
 | .seq a _=>a
 |c=>c
def q2:Code→Code
 | .seq _ b=>b
 |c=>c
def qb:Code→Code
 | .block _ c=>c
 |c=>c
def ql:Code→Code
 | .loop c=>c
 |c=>c
def qd:Nat→Code→Code
 |0,c=>c
 |n+1,c=>qd n (q2 c)
def qf(f:Func):Code:=f.body.getD .skip
theorem az(a:Act)(t:Nat):a.eval (.tmp t)=a.tmps.getD t undef:=rfl
theorem ae{t:Array Value}{d k:Nat}{v u:Value}(h:d≠k):(t.setIfInBounds d v).getD k u=t.getD k u:=by
 simp only[Array.getD_eq_getD_getElem?];rw[Array.getElem?_setIfInBounds_ne h]
theorem aC{t:Array Value}{d:Nat}{v u:Value}(h:d<t.size):(t.setIfInBounds d v).getD d u=v:=by
 simp only[Array.getD_eq_getD_getElem?];rw[Array.getElem?_setIfInBounds_self_of_lt h];rfl
theorem gI{t:Array Value}{N k:Nat}{v:Value}(hz:t.size=N)(h:t.getD k undef=v)(hk:k<N):t[k]' om=v:=by
 rw[←h];simp[hz,hk]
theorem bW{P:Program}{f:FuncId}{fn:Func}{c:Code}{vs:List Value}{w:World}{R:Ending→World→Prop}(hf:P.funcs[f]? =some fn)(hb:fn.body=some c)(hn:vs.length≤fn.ntmps)
 (k:∀a:Act,a.tmps.size=fn.ntmps→(∀j,j<vs.length→a.tmps.getD j undef=vs.getD j undef)→a.defers=[]→c.wp P (bodyPost P fn R) a w):Calls P f vs.toArray w R:=by
 refine calls_of_wp hf hb (k _ ?_ ?_ rfl)
 ·simp;omega
 ·intro j hj;simp only[Array.getD_eq_getD_getElem?,List.getD];rw[Array.getElem?_append_left (by simpa using hj)];simp
end Go.Proofs.YtoehbmlfnjlchaaGreatDoor
namespace Go.Proofs.YtoehbmlfnjlchaaGreatDoor
open Go Go.RowKit Go.Proofs Ab
def OutR(w:World)(b:Nat)(vl vf vu:Value)(Lv Fv Uv vs:List Value)(e:Ending)(w':World):Prop:=
 ∃lI lJ lK Fs Us,e= .returned (.tuple #[])∧aY w (Bq b vl vf vu) w'∧Bn w' b lI lJ lK (Lv++vs) (Fv++Fs) (Uv++Us)∧Fs.length=vs.length∧Us.length=vs.length∧(∀v,v∈Fs→∃a c,v= .slice a 0 c)∧(∀v,v∈Us→∃a c,v= .slice a 0 c)∧∀q,Bq b lI lJ lK q→Bq b vl vf vu q∨w.heap.size≤q
theorem nil1{w:World}{H:Nat→Prop}{v:Value}(h1:aO w H v (.l 1 [])):∃a c,v= .slice a 0 c:=by
 obtain⟨a,n,cap,_,_,_,rfl,_,h2,_⟩:=(Rep.up (ov:=fun _=>none) h1).l_;have:n=0:=by simpa using h2.symm
 subst this;exact⟨a,cap,rfl⟩
def outL(f:Func):Code:=ql (qb (q2 (qf f)))
theorem out_cond{a:Act}{w:World}{R:Exit→Act→World→Prop}{va:Option Addr}{m vc i:Nat}(hz:a.tmps.size=42)(h1:a.tmps.getD 1 undef= .slice va m vc)(h4:a.tmps.getD 4 undef= .int .i64 (i:Int))(hm:m≤1000)
 (kt:(i:Int)<(m:Int)→∀a':Act,a'.tmps.size=42→(∀t,t<5→a'.tmps.getD t undef=a.tmps.getD t undef)→a'.defers=a.defers→R .normal a' w)
 (kf:¬(i:Int)<(m:Int)→∀a':Act,a'.defers=a.defers→R (.exit 0) a' w):(q1 (outL Tryz.f29)).wp Tryz.prog R a w:=by
 have g1:=gI hz h1 dc
 have g4:=gI hz h4 dc
 have hA:=PLift.up (And.intro kt kf)
 clear kt kf
 by_cases hi:(i:Int)<(m:Int)
 ·refine wp_seq_k fun K0 hK0=>?_
  have hk0:=PLift.up hK0;clear hK0;refine wp_region_lit ?_;go_wp2;refine hk0.down _ _ ?_;refine wp_cond_true (by rw[az];dsimp only;rw[aC (by simp[hz])]) ?_;go_wp2;refine hA.down.1 hi _ (by simp[hz]) (fun t ht=>?_) rfl;dsimp only;rw[ae om,ae om,ae om,ae om]
 ·refine wp_seq_k fun K0 hK0=>?_
  have hk0:=PLift.up hK0;clear hK0;refine wp_region_lit ?_;go_wp2;refine hk0.down _ _ ?_;refine wp_cond_false (by rw[az];dsimp only;rw[aC (by simp[hz])]) ?_;go_wp2;exact hA.down.2 om _ rfl
theorem QF{a:Act}{w:World}{R:Exit→Act→World→Prop}{i:Nat}(hz:a.tmps.size=42)(h4:a.tmps.getD 4 undef= .int .i64 (i:Int))(hi:i≤1000)
 (kk:∀a':Act,a'.tmps.size=42→(∀t,t<4→a'.tmps.getD t undef=a.tmps.getD t undef)→a'.tmps.getD 4 undef= .int .i64 ((i:Int)+1)→a'.defers=a.defers→R .normal a' w):(q2 (q2 (outL Tryz.f29))).wp Tryz.prog R a w:=by
 have g4:=gI hz h4 dc
 have iU:=PLift.up kk
 clear kk
 refine wp_region_lit ?_
 go_wp2
 refine iU.down _ (by simp[hz]) (fun t ht=>?_) ?_ rfl
 ·dsimp only;rw[ae om,ae om,ae om]
 ·dsimp only;rw[aC (by simp[hz])]
structure OutI(w:World)(b:Nat)(vl vf vu:Value)(Lv Fv Uv vs:List Value)(i:Nat)(wr:World):Prop where
 ex:∃lI lJ lK Fs Us,Bn wr b lI lJ lK (Lv++vs.take i) (Fv++Fs) (Uv++Us)∧Fs.length=i∧Us.length=i∧(∀v,v∈Fs→∃a c,v= .slice a 0 c)∧(∀v,v∈Us→∃a c,v= .slice a 0 c)∧∀q,Bq b lI lJ lK q→Bq b vl vf vu q∨w.heap.size≤q
 bel:aY w (Bq b vl vf vu) wr
theorem VB{w:World}{b n:Nat}{vl vf vu va:Value}{Lv Fv Uv vs:List Value}{Ha:Nat→Prop}(hb:Bn w b vl vf vu Lv Fv Uv)(bH:∀q,Ha q→q<w.heap.size)(hHB:∀q,Bq b vl vf vu q→¬Ha q)(hva:aO w Ha va (.l 1 (vs.map V.c)))(l1:Lv.length=n)(l2:Fv.length=n)(l3:Uv.length=n)(cl:∀v,v∈Lv→v.oneCell'=true)(cf:∀v,v∈Fv→v.oneCell'=true)(cu:∀v,v∈Uv→v.oneCell'=true)(cv:∀v,v∈vs→v.oneCell'=true)(hn:n≤1000)(hm:vs.length≤1000):
 Calls Tryz.prog 29 #[.pointer (some ⟨b,0,none⟩),va] w (OutR w b vl vf vu Lv Fv Uv vs):=by
 have cc:∀{L:List Value},(∀v,v∈L→v.oneCell'=true)→∀x,x∈L.map V.c→x.cell=true:=fun h x hx=>by
  obtain⟨v,hv,rfl⟩:=List.mem_map.1 hx;exact h v hv
 have rc:∀{L:List Value} {w:World} {H:Nat→Prop},aA w H L (L.map V.c):=fun {L w H}=>⟨sy,fun j v x h1 h2=>by
  simp only[List.getElem?_map,h1,Option.map_some,Option.some.injEq]at h2;subst h2;exact .c v⟩
 obtain⟨aa,am,ac,_,_,_,rfl,_,hlen,_⟩:=(Rep.up (ov:=fun _=>none) hva).l_
 obtain rfl:am=vs.length:=by rw[QD]at hlen;omega
 refine bW (vs:=[.pointer (some ⟨b,0,none⟩),.slice aa vs.length ac]) Tryz.func29 (c:=qf Tryz.f29) rfl (by show 2≤_;decide) fun a0 z0 e0 d0=>?_
 have e1:a0.tmps.getD 1 undef= .slice aa vs.length ac:=e0 1 (by show 1<2;decide)
 have e0:a0.tmps.getD 0 undef= .pointer (some ⟨b,0,none⟩):=e0 0 (by show 0<2;decide)
 change a0.tmps.size=42 at z0
 refine wp_seq_k fun K0 hK0=>?_
 have hk0:=PLift.up hK0
 clear hK0
 refine wp_region_lit ?_
 go_wp2
 refine hk0.down _ _ ?_
 refine wp_block ?_
 refine wp_loop (fun a' wr=>∃i:Nat,i≤vs.length∧a'.tmps.size=42∧a'.tmps.getD 0 undef= .pointer (some ⟨b,0,none⟩)∧a'.tmps.getD 1 undef= .slice aa vs.length ac∧a'.tmps.getD 4 undef= .int .i64 (i:Int)∧a'.defers=[]∧OutI w b vl vf vu Lv Fv Uv vs i wr)
  (fun a' _=>vs.length-(intOf (a'.tmps.getD 4 undef)).toNat) ?_ ?_
 ·refine⟨0,Nat.zero_le _,by simp[z0],?_,?_,?_,by first|rfl|exact d0,⟨vl,vf,vu,[],[],by simpa using hb,rfl,rfl,fun v h=>(by simp at h),fun v h=>(by simp at h),fun q h=> .inl h⟩,aY.refl _ _⟩
  ·dsimp only;rw[ae dc];exact e0
  ·dsimp only;rw[ae dc];exact e1
  ·dsimp only;rw[aC (by simp[z0])];rfl
 ·rintro a' wr ⟨i,hi,hz,h0,h1,h4,hd,hI⟩;refine wp_seq ?_;refine out_cond hz h1 h4 hm (fun hlt a1 hz1 hs1 hd1=>?_) (fun hge a1 hd1=>?_)
  ·obtain⟨⟨vl1,vf1,vu1,Fs,Us,hB,hF,hU,fn,un,hq⟩,hbel⟩:=hI;have hilt:i<vs.length:=om;have hnn:(Lv++vs.take i).length=n+i:=by rw[List.length_append,List.length_take];omega
   have hnf:(Fv++Fs).length=n+i:=by rw[List.length_append];omega
   have hnu:(Uv++Us).length=n+i:=by rw[List.length_append];omega
   have QG:∀{L M:List Value},(∀v,v∈L→v.oneCell'=true)→(∀v,v∈M→v.oneCell'=true)→∀v,v∈L++M→v.oneCell'=true:=fun h1 h2 v hv=>(List.mem_append.1 hv).elim (h1 v) (h2 v)
   have nilc:∀{L:List Value},(∀v,v∈L→∃a c,v= .slice a 0 c)→∀v,v∈L→v.oneCell'=true:=fun h v hv=>by obtain⟨a,c,rfl⟩:=h v hv;rfl
   have hHa:∀q,Ha q→wr.heap[q]? =w.heap[q]? :=fun q hq=>hbel.block q (bH q hq) (fun h=>hHB q h hq)
   obtain⟨capb,hM⟩:=hB.mem (H:=Ha) (ks:=[(0,.pointer (some ⟨b,0,none⟩)),(1,.slice aa vs.length ac),(4,.int .i64 (i:Int))]) (fun q hq=>Nat.lt_of_lt_of_le (bH q hq) hbel.size) (fun q h2 h=>(hq q h2).elim (fun h'=>hHB q h' h) (fun h'=>by have:=bH q h;omega)) rc rc rc
    (cc (QG cl fun v hv=>cv v (List.mem_of_mem_take hv))) (cc (QG cf (nilc fn))) (cc (QG cu (nilc un))) om om om
   rw[hnn,hnf,hnu]at hM;have hcell:V.cell (.c (vs.getD i undef))=true:=cv _ (by rw[List.getD_eq_getElem?_getD,List.getElem?_eq_getElem hilt];exact List.getElem_mem hilt);refine wp_seq_k fun K1 hK1=>?_
   have hk1:=PLift.up hK1;clear hK1;have f0:=(hs1 0 dc).trans h0;have f1:=(hs1 1 dc).trans h1;have f4:=(hs1 4 dc).trans h4;have iG:Conc wr ⟨Ha,Bq b vl1 vf1 vu1,[(0,.pointer (some ⟨b,0,none⟩)),(1,.slice aa vs.length ac),(4,.int .i64 (i:Int))]⟩ wr Ha (bOv b capb vl1 vf1 vu1) 42 a1 ⟨[(0,.pt 0 0),(1,.l 1 (vs.map V.c)),(4,.i .i64 (i:Int))],bO (n+i) (n+i) (n+i) ((Lv++vs.take i).map V.c) ((Fv++Fs).map V.c) ((Uv++Us).map V.c),4⟩:=by
    refine⟨hM,hz1,hd1.trans hd,fun m v hmv=>?_,?_,fun id hid=>?_⟩
    ·simp only[List.mem_cons,Prod.mk.injEq,List.not_mem_nil,or_false]at hmv;rcases hmv with ⟨rfl,rfl⟩|⟨rfl,rfl⟩|⟨rfl,rfl⟩<;>assumption
    ·refine CV (fun t=>a1.tmps.getD t undef) _ fun p hp=>?_
     simp only[List.mem_cons,List.not_mem_nil,or_false]at hp;rcases hp with rfl|rfl|rfl
     ·show Rep _ _ _ (a1.tmps.getD 0 undef) _;rw[f0];exact .pt 0 0 b _ rfl rfl
     ·show Rep _ _ _ (a1.tmps.getD 1 undef) _;rw[f1];exact .base (hva.mono (fun _ h=>h) hHa)
     ·show Rep _ _ _ (a1.tmps.getD 4 undef) _;rw[f4];exact .i _ _
    ·match id,hid with
     |k+4,_=>rfl
   refine mid_go (N:=42) dB (c:=q1 (q2 (outL Tryz.f29))) (A:=(alp (abk a29.p2)).p2.p1) (by kernel_rfl) (fun m v hmv=>?nk) iG (QE (n+i) i ((Lv++vs.take i).map V.c) ((Fv++Fs).map V.c) ((Uv++Us).map V.c) vs om hm hilt hcell) ?_;case nk=>
    simp only[List.mem_cons,Prod.mk.injEq,List.not_mem_nil,or_false]at hmv;rcases hmv with ⟨rfl,_⟩|⟨rfl,_⟩|⟨rfl,_⟩<;>rfl
   rintro a2 w2 H2 X4 s2 ⟨i1,i2,i3,o0,d12,d13,d23,o1,o2,o3,g0⟩ hc2;have j0:=hc2.kp 0 _ (.head _);have j1:=hc2.kp 1 _ (.tail _ (.head _));have j4:=hc2.kp 4 _ (.tail _ (.tail _ (.head _)));obtain⟨lI,lJ,lK,xl,xf,xu,hbx,⟨L1,L2⟩,⟨F1,F2⟩,⟨U1,U2⟩,s12,s13,s23,hq2⟩:=Bn.of hc2 j0 g0 o0 o1 o2 o3 d12 d13 d23;have one:∀{ys:List Value} {x:V},aA w2 H2 ys [x]→∃y,ys=[y]∧aO w2 H2 y x:=fun {ys x} h=>by
    match ys,h.1 with
    |[y],_=>exact⟨y,rfl,h.2 0 y x rfl rfl⟩
   obtain⟨yl,rfl,hyl⟩:=rV L2;obtain⟨zl,rfl,hzl⟩:=one hyl;obtain rfl:=(Rep.up (ov:=fun _=>none) hzl).inv_c;obtain⟨yf,rfl,hyf⟩:=rV F2;obtain⟨zf,rfl,hzf⟩:=one hyf;obtain⟨yu,rfl,hyu⟩:=rV U2;obtain⟨zu,rfl,hzu⟩:=one hyu;have EE:=hc2.mem.bel;have hz2:=hc2.Dp;have hd2:=hc2.Am;have hsz1:=hbel.size;have hsz2:=EE.size;refine hk1.down _ _ ?_;refine QF hz2 j4 om fun a3 hz3 hs3 e4 hd3=>?_
   have htake:vs.take (i+1)=vs.take i++[vs.getD i undef]:=by
    rw[List.take_succ_eq_append_getElem hilt,List.getD_eq_getElem?_getD,List.getElem?_eq_getElem hilt];rfl
   refine⟨⟨i+1,hilt,hz3,(hs3 0 dc).trans j0,(hs3 1 dc).trans j1,by rw[e4];rfl,hd3.trans hd2,⟨lI,lJ,lK,Fs++[zf],Us++[zu],?_,by rw[List.length_append,hF];rfl,by rw[List.length_append,hU];rfl,fun v hv=>?_,fun v hv=>?_,fun q h2=>?_⟩,⟨EE.os.trans hbel.os,EE.tape.trans hbel.tape,EE.output.trans hbel.output,om,fun q h2 hne=>(EE.block q om (fun h=>(hq q h).elim hne (fun h=>om))).trans (hbel.block q h2 hne)⟩⟩,?_⟩
   ·rw[htake,←List.append_assoc,←List.append_assoc,←List.append_assoc];exact⟨hbx,by rw[List.length_append,hnn];exact L1,by rw[List.length_append,hnf];exact F1,by rw[List.length_append,hnu];exact U1,s12,s13,s23⟩
   ·rcases List.mem_append.1 hv with hv|hv
    ·exact fn v hv
    ·rw[List.mem_singleton.1 hv];exact nil1 hzf
   ·rcases List.mem_append.1 hv with hv|hv
    ·exact un v hv
    ·rw[List.mem_singleton.1 hv];exact nil1 hzu
   ·rcases(hq2 q h2).2 with h|h
    ·exact .inr om
    ·exact hq q h
   ·rw[e4,h4];simp only[intOf];omega
  ·obtain⟨⟨vl1,vf1,vu1,Fs,Us,hB,hF,hU,fn,un,hq⟩,hbel⟩:=hI;obtain rfl:i=vs.length:=om;rw[List.take_length]at hB;exact⟨hd1.trans hd,_,bM (show dm Tryz.f29.results.toList=some []from rfl) _ _,vl1,vf1,vu1,Fs,Us,rfl,hbel,hB,hF,hU,fn,un,hq⟩
end Go.Proofs.YtoehbmlfnjlchaaGreatDoor
namespace Go.Proofs.YtoehbmlfnjlchaaGreatDoor
open Go Go.RowKit Ab
def qU:=an @aU (an @Nat.div_one (an @Nat.mul_one (an @bI (an @gU (an @fK (an @wi (an @xA (an @Bool.false_and @gQ))))))))
def LA(L:List (List Nat)):List V:=L.map fun a=>V.l 1 (W a)
theorem QH(L:List (List Nat)):(LA L).length=L.length:=by simp[LA]
theorem LA_get(L:List (List Nat))(k:Nat)(h:k<L.length):(LA L).getD k .un= .l 1 (W (L.getD k [])):=by
 simp[LA,List.getD_eq_getElem?_getD,h]
theorem W_gtA(a:List Nat)(i:Nat)(h:i<a.length):(W a).getD i .un= .i .u64 ((a.getD i 0:Nat):Int):=by
 simp[W,List.getD_eq_getElem?_getD,h]
def a23:AC:= .seq (.reg [qr 2 (.mv (.k (.b false)))]) (.seq (.seq (.reg [qr 3 (.mv (.k (.i .i64 0)))]) (.blk 0 (.loop (.seq (.seq (.reg [qm 5 3,qm 6 0,qr 7 (.nc (.t 6)),qr 8 (.dQ 1 (.t 7)),qr 9 (.ld false 1 (.t 8)),qr 10 (.len (.t 9)),qr 11 (.bin .lss (.t 5) (.t 10))]) (.cond (.t 11) (.skip) (.exit 0))) (.seq (.blk 1 (.seq (.reg [qr 4 (.mv (.k (.i .i64 0)))]) (.blk 2 (.loop (.seq (.seq (.reg [qm 14 4,qm 15 0,qr 16 (.nc (.t 15)),qr 17 (.dQ 1 (.t 16)),qr 18 (.ld false 1 (.t 17)),qm 19 3,qr 20 (.idx 1 (.t 18) (.t 19)),qr 21 (.ld false 1 (.t 20)),qr 22 (.len (.t 21)),qr 23 (.bin .lss (.t 14) (.t 22))]) (.cond (.t 23) (.skip) (.exit 2))) (.seq (.blk 3 (.seq (.gp [qm 26 0,qr 27 (.nc (.t 26)),qr 28 (.dQ 1 (.t 27)),qr 29 (.ld false 1 (.t 28)),qm 30 3,qr 31 (.idx 1 (.t 29) (.t 30)),qr 32 (.ld false 1 (.t 31)),qm 33 4,qr 34 (.idx 1 (.t 32) (.t 33)),qr 35 (.ld false 1 (.t 34)),qm 36 0,qr 37 (.nc (.t 36)),qr 38 (.dQ 2 (.t 37)),qr 39 (.ld false 1 (.t 38)),qm 40 3,qr 41 (.idx 1 (.t 39) (.t 40)),qr 42 (.ld false 1 (.t 41)),qm 43 4,qr 44 (.idx 1 (.t 42) (.t 43)),qr 45 (.ld false 1 (.t 44)),qr 46 (.bin .neq (.t 35) (.t 45))]) (.cond (.t 46) (.seq (.reg [qr 2 (.mv (.k (.b false)))]) (.ret)) (.skip)))) (.reg [qm 24 4,qr 25 (.bin .add (.t 24) (.k (.i .i64 1))),qm 4 25]))))))) (.reg [qm 12 3,qr 13 (.bin .add (.t 12) (.k (.i .i64 1))),qm 3 13])))))) (.seq (.reg [qr 2 (.mv (.k (.b true)))]) (.ret)))
theorem zD(L:List (List Nat))(x0:V)(hL:L.length≤1000000)(ha:∀a,a∈L→a.length≤1000000000000):
 aF Tryz.prog J0 23 [.ip [x0,.l 1 (LA L),.l 1 (LA L)] 0] (.b true):=by
 have hl:=QH L
 refine ja dB eY Tryz.func23 a23 ?_
 unfold a23
 simp only[ak,aH,qm,qr,qn]
 refine aP @qU ?_
 refine bD [] Nat (fun k=>⟨[(0,.ip [x0,.l 1 (LA L),.l 1 (LA L)] 0),(3,.i .i64 (k:Int))],[],0⟩) (fun k=>k≤L.length) (fun k=>L.length-k) 0 (Nat.zero_le _) (by exact ni) (by
  exact qj) ?_
 intro k hk Q' hQ he hr
 by_cases h:(k:Int)<(L.length:Int)
 ·have hg:=LA_get L k om;have hmem:L.getD k []∈L:=by rw[List.getD_eq_getElem?_getD,List.getElem?_eq_getElem om];exact List.getElem_mem _
  have hal:=ha _ hmem;generalize L.getD k []=a at*
  refine aP (ai @hl (ai @h @qU)) ?_;refine bD [] Nat (fun i=>⟨[(0,.ip [x0,.l 1 (LA L),.l 1 (LA L)] 0),(3,.i .i64 (k:Int)),(4,.i .i64 (i:Int))],[],0⟩) (fun i=>i≤a.length) (fun i=>a.length-i) 0 (Nat.zero_le _) (by exact ni) (by
   exact qj) ?_
  intro i hi Q2 hQ2 he2 hr2;by_cases h2:(i:Int)<(a.length:Int)
  ·have hx:=W_gtA a i om;have hxx:(((a.getD i 0:Nat):Int)=((a.getD i 0:Nat):Int))=True:=eq_self _;generalize ((a.getD i 0:Nat):Int)=x at*
   refine aP (ai @hxx (ai @hx (ai @h2 (ai @hg (ai @hl (ai @h @qU)))))) ?_;refine hQ2 _ (i+1) om om ?_;exact qj
  ·obtain rfl:i=a.length:=om;refine aP (ai @h2 (ai @hg (ai @hl (ai @h @qU)))) ?_;refine he2 _ _ ?_;refine aP @qU ?_;refine hQ _ (k+1) om om ?_;exact qj
 ·obtain rfl:k=L.length:=om;refine aP (ai @hl (ai @h @qU)) ?_;refine he _ _ ?_;refine aP @qU ?_;exact oC @qU
