import Derived.Handy
import Derived.ArgAppend
import Derived.BigCall
import Derived.Test.YtcgfgifjkkmmcaaGreatDoorU6
set_option linter.all false
set_option maxHeartbeats 10000000
set_option maxRecDepth 2000000
namespace Go.Proofs.YtcgfgifjkkmmcaaGreatDoor
open Go Go.RowKit Go.Proofs Ab
theorem NI(w:World)(H:Nat→Prop):TJ w H:=fun g cs h=>by cases h
theorem aP{B:Nat}{e k n:Nat}{v:Value}{xs:List Value}{w w':World}(h:w.ownsRow B e k v n xs)(hb:∀q,v.ownBlock=some q→w'.heap[q]? =w.heap[q]?):w'.ownsRow B e k v n xs:=by
 refine⟨h.1,h.2.imp id fun⟨g,cap,cur,e1,h1,h2,h3⟩=>⟨g,cap,cur,e1,h1,?_,h3⟩⟩;rw[hb g (by rw[e1];rfl)];exact h2
theorem dX{B B' e k n:Nat}{v:Value}{xs:List Value}{w:World}(h:w.ownsRow B e k v n xs)(hB:B'≤B):w.ownsRow B' e k v n xs:=
 ⟨h.1,h.2.imp id fun⟨g,cap,cur,e1,h1,h2⟩=>⟨g,cap,cur,e1,Nat.le_trans hB h1,h2⟩⟩
theorem aT{w:World}{B e k n:Nat}{v:Value}{xs:List Value}(h:w.ownsRow B e k v n xs):∃a c,v= .slice a n c:=by
 rcases h.2 with ⟨rfl,rfl⟩|⟨g,cap,cur,rfl,_⟩<;>exact⟨_,_,rfl⟩
theorem lH{w:World}{B e sz n:Nat}{v:Value}{xs:List Value}(h:w.ownsRow B e sz v n xs):blk v=v.ownBlock:=by
 rcases h.2 with ⟨rfl,_⟩|⟨g,cap,cur,rfl,_⟩<;>rfl
theorem sG{w:World}{B B' e e' k k' n n':Nat}{v v':Value}{xs xs':List Value}(h:w.ownsRow B e k v n xs)(h':w.ownsRow B' e' k' v' n' xs')(hne:e≠e'){q:Nat}(hq:v.ownBlock=some q):v'.ownBlock≠some q:=fun hq'=>by
 rcases h.2 with ⟨rfl,_⟩|⟨g,cap,cur,rfl,_,h1,_⟩
 ·cases hq
 ·rcases h'.2 with ⟨rfl,_⟩|⟨g',cap',cur',rfl,_,h2,_⟩
  ·cases hq'
  ·cases hq;cases hq';rw[h1]at h2;cases h2;exact hne rfl
theorem CX{w:World}{B e sz n:Nat}{v:Value}{xs:List Value}{cs:List V}{H:Nat→Prop}(hsz:0<sz)(ho:w.ownsRow B e sz v n xs)(hr:aj w H xs cs)(hm:n≤maxLen)(hH:∀q,v.ownBlock=some q→H q):Rep0 w H v (.l sz cs):=by
 have hl:cs.length=n*sz:=by rw[←hr.1];exact ho.1
 rcases ho.2 with ⟨rfl,rfl⟩|⟨g,cap,cur,rfl,h1,h2,h3,h4⟩
 ·have hcs:cs=[]:=List.eq_nil_of_length_eq_zero (by rw[hl];exact Nat.zero_mul _);subst hcs;exact .l none 0 0 sz [] (fun _=>undef) 0 0 hsz (Nat.zero_mul _).symm (Nat.zero_le _) (Nat.le_refl _) (.inl rfl) (fun j hj=>absurd hj (Nat.not_lt_zero j)) (fun j x hx=>by simp at hx)
 ·refine .l _ n cap sz cs (fun j=>xs[j]?.getD undef) g 0 hsz hl hm h3 (.inr ⟨rfl,hH g rfl⟩) (fun j hj=>?_) (fun j x hx=>?_)
  ·rw[Nat.zero_add,ho.cellAt j (by rw[←hl];exact hj),List.getElem?_eq_getElem (by rw[hr.1];exact hj)];rfl
  ·have hj:j<xs.length:=by rw[hr.1];exact(List.getElem?_eq_some_iff.1 hx).1
   rw[List.getElem?_eq_getElem hj];exact hr.2 j _ x (List.getElem?_eq_getElem hj) hx
theorem Ji{w:World}{H:Nat→Prop}{ov:Nat→Option Value}(tm:Nat→Value):∀(l:List (Nat×V)),(∀p,p∈l→Rep w H ov (tm p.1) p.2)→∀t,Rep w H ov (tm t) (lk l t)
 |[],_,t=> .any _
 |(k,v)::r,h,t=>by
  unfold lk;split
  ·rename_i e;subst e;exact h (k,v) (.head _)
  ·exact Ji tm r (fun p hp=>h p (.tail _ hp)) t
def Wv(a:List Nat):List Value:=a.map fun n:Nat=>Value.int .u64 (n:Int)
theorem D_{w:World}{H:Nat→Prop}(a:List Nat):aj w H (Wv a) (W a):=by
 refine⟨by simp[Wv,W],fun j v x h1 h2=>?_⟩;simp only[Wv,W,List.getElem?_map,Option.map_eq_some_iff]at h1 h2;obtain⟨n,h3,rfl⟩:=h1;obtain⟨m,h4,rfl⟩:=h2;rw[h3]at h4;cases h4;exact .i _ _
theorem CY{w:World}{H:Nat→Prop}{a:List Nat}{xs:List Value}(h:aj w H xs (W a)):xs=Wv a:=by
 have hl:xs.length=a.length:=by rw[h.1,aH]
 refine List.ext_getElem? fun j=>?_
 rcases Nat.lt_or_ge j a.length with hj|hj
 ·have h1:xs[j]? =some xs[j]:=List.getElem?_eq_getElem om;have h2:(W a)[j]? =some (.i .u64 (a[j]:Int)):=by simp[W,hj]
  have h3:=h.2 j _ _ h1 h2;rw[h1];generalize xs[j]=v at h3;cases h3;simp[Wv,hj]
 ·rw[List.getElem?_eq_none om,List.getElem?_eq_none (by simp[Wv];exact hj)]
theorem c_of{w:World}{H:Nat→Prop}{L xs:List Value}(h:aj w H xs (L.map V.c)):xs=L:=by
 have hl:xs.length=L.length:=by rw[h.1,List.length_map]
 refine List.ext_getElem? fun j=>?_
 rcases Nat.lt_or_ge j L.length with hj|hj
 ·have h1:xs[j]? =some xs[j]:=List.getElem?_eq_getElem om;have h3:=h.2 j _ (.c L[j]) h1 (by simp[hj]);rw[h1,List.getElem?_eq_getElem hj];generalize xs[j]=v at h3;cases h3;rfl
 ·rw[List.getElem?_eq_none om,List.getElem?_eq_none hj]
theorem tX{w:World}{H:Nat→Prop}{L xs:List Value}{cs:List V}(h:aj w H xs (L.map V.c++cs)):∃ys,xs=L++ys∧aj w H ys cs:=by
 have hl:xs.length=L.length+cs.length:=by rw[h.1,List.length_append,List.length_map]
 refine⟨xs.drop L.length,?_,by rw[List.length_drop];omega,fun j v x h1 h2=>?_⟩
 ·have h4:xs.take L.length=L:=c_of (w:=w) (H:=H) ⟨by rw[List.length_take,List.length_map];omega,fun j v x h1 h2=>by
   rw[List.getElem?_take]at h1;split at h1
   ·rename_i hj;exact h.2 j v x h1 (by rw[List.getElem?_append_left (by rw[List.length_map];exact hj)];exact h2)
   ·cases h1⟩
  conv=>lhs;rw[←List.take_append_drop L.length xs,h4]
 ·rw[List.getElem?_drop]at h1;refine h.2 _ v x h1 ?_;rw[List.getElem?_append_right (by rw[List.length_map];omega),List.length_map,Nat.add_sub_cancel_left];exact h2
abbrev Rs:=Value×Value×Value×Value
structure Bn(w:World)(b:Nat)(rs:Rs)(vl vf vu:Value)(Lv Fv Uv:List Value):Prop where
 box:∃cap,w.ownsRow 0 41 7 (.slice (some ⟨b,0,none⟩) 1 cap) 1 [vl,vf,vu,rs.1,rs.2.1,rs.2.2.1,rs.2.2.2]
 rl:w.ownsRow 0 22 1 vl Lv.length Lv
 rf:w.ownsRow 0 22 1 vf Fv.length Fv
 ru:w.ownsRow 0 22 1 vu Uv.length Uv
 lf:∀q,vl.ownBlock=some q→vf.ownBlock≠some q
 lu:∀q,vl.ownBlock=some q→vu.ownBlock≠some q
 fu:∀q,vf.ownBlock=some q→vu.ownBlock≠some q
 rc:rs.1.oneCell'=true∧rs.2.1.oneCell'=true∧rs.2.2.1.oneCell'=true∧rs.2.2.2.oneCell'=true
def Bq(b:Nat)(vl vf vu:Value)(q:Nat):Prop:=q=b∨vl.ownBlock=some q∨vf.ownBlock=some q∨vu.ownBlock=some q
theorem Bn.lt{rs:Rs}{w:World}{b:Nat}{vl vf vu:Value}{Lv Fv Uv:List Value}(h:Bn w b rs vl vf vu Lv Fv Uv):∀q,Bq b vl vf vu q→q<w.heap.size:=fun q hq=>by
 rcases hq with rfl|hq|hq|hq
 ·obtain⟨cap,ho⟩:=h.box;exact(ho.lt q rfl).2
 ·exact(h.rl.lt q hq).2
 ·exact(h.rf.lt q hq).2
 ·exact(h.ru.lt q hq).2
theorem Bn.keep{rs:Rs}{w w':World}{b:Nat}{vl vf vu:Value}{Lv Fv Uv:List Value}(h:Bn w b rs vl vf vu Lv Fv Uv)(hb:∀q,Bq b vl vf vu q→w'.heap[q]? =w.heap[q]?):Bn w' b rs vl vf vu Lv Fv Uv:=
 ⟨by obtain⟨cap,ho⟩:=h.box;exact⟨cap,aP ho fun q hq=>by cases hq;exact hb b (.inl rfl)⟩,aP h.rl fun q hq=>hb q (.inr (.inl hq)),aP h.rf fun q hq=>hb q (.inr (.inr (.inl hq))),aP h.ru fun q hq=>hb q (.inr (.inr (.inr hq))),h.lf,h.lu,h.fu,h.rc⟩
theorem Bn.below{rs:Rs}{w w':World}{b:Nat}{vl vf vu:Value}{Lv Fv Uv:List Value}(h:Bn w b rs vl vf vu Lv Fv Uv)(hb:Below w.heap.size w w'):Bn w' b rs vl vf vu Lv Fv Uv:=h.keep fun q hq=>hb.block q (h.lt q hq)
theorem Q9{rs:Rs}{w:World}{b:Nat}{vl vf vu:Value}{Lv Fv Uv:List Value}(h:Bn w b rs vl vf vu Lv Fv Uv):vl.ownBlock≠some b∧vf.ownBlock≠some b∧vu.ownBlock≠some b:=by
 obtain⟨cap,ho⟩:=h.box;have key:∀(v:Value) (n:Nat) (xs:List Value),w.ownsRow 0 22 1 v n xs→v.ownBlock≠some b:=fun v n xs h'=>sG ho h' dc rfl
 exact⟨key _ _ _ h.rl,key _ _ _ h.rf,key _ _ _ h.ru⟩
def bO(rs:Rs)(nl nf nu:Nat)(ls fs us:List V):List (Nat×Option Ob):=[(0,some ⟨41,7,[.ow 1 1 nl,.ow 1 2 nf,.ow 1 3 nu,.c rs.1,.c rs.2.1,.c rs.2.2.1,.c rs.2.2.2],true,true⟩),(1,some ⟨22,1,ls,true,false⟩),(2,some ⟨22,1,fs,true,false⟩),(3,some ⟨22,1,us,true,false⟩)]
theorem Jj{rs:Rs}{nl nf nu:Nat}{ls fs us:List V}{i:Nat}{o:Ob}(h:lo (bO rs nl nf nu ls fs us) i=some o):i<4:=by
 simp only[bO,lo]at h;split at h
 ·omega
 ·split at h
  ·omega
  ·split at h
   ·omega
   ·split at h
    ·omega
    ·cases h
def bOv(b cap:Nat)(vl vf vu:Value)(i:Nat):Option Value:=match i with
 |0=>some (.slice (some ⟨b,0,none⟩) 1 cap)
 |1=>some vl
 |2=>some vf
 |3=>some vu
 |_=>none
theorem Bn.mem{rs:Rs}{w:World}{H:Nat→Prop}{ks:List (Nat×Value)}{b:Nat}{vl vf vu:Value}{Lv Fv Uv:List Value}{ls fs us:List V}(h:Bn w b rs vl vf vu Lv Fv Uv)(hlt:∀q,H q→q<w.heap.size)(hH:∀q,Bq b vl vf vu q→¬H q)
 (hl:aj w H Lv ls) (hf:aj w H Fv fs) (hu:aj w H Uv us) (cl:∀x,x∈ls→x.cell=true) (cf:∀x,x∈fs→x.cell=true) (cu:∀x,x∈us→x.cell=true) (ml:Lv.length≤1000000) (mf:Fv.length≤1000000) (mu:Uv.length≤1000000):
 ∃cap,Mem w ⟨H,Bq b vl vf vu,ks⟩ w H (bOv b cap vl vf vu) (lo (bO rs Lv.length Fv.length Uv.length ls fs us)):=by
 obtain⟨cap,hbox⟩:=h.box
 refine⟨cap,?_⟩
 have mx:∀n:Nat,n≤1000000→n≤maxLen:=fun n h=>by unfold maxLen;omega
 have bl:=lH h.rl
 have bf:=lH h.rf
 have bu:=lH h.ru
 obtain⟨x1,x2,x3⟩:=Q9 h
 refine⟨aI.refl _ _,NI _ _,hlt,fun b h _=> .inl h,fun id o ho=>?_,fun i j oi oj vi vj q hij hi hj xe p_ hb=>?_⟩
 ·have hk:=Jj ho;match id,hk with
  |0,_=>
   cases ho;refine⟨_,rfl,fun x hx=>?_,fun q hq=>(by cases hq;exact .inr (.inl rfl)),fun q hq=>(by cases hq;exact⟨fun h'=>absurd h' (hH b (.inl rfl)),fun h'=>by cases h'⟩),.inl ⟨rfl,.inr ⟨by show 0<7;decide,1,_,hbox,⟨rfl,fun j v x h1 h2=>?_⟩,by unfold maxLen;omega⟩⟩⟩
   ·simp only[List.mem_cons,List.not_mem_nil,or_false]at hx;rcases hx with rfl|rfl|rfl|rfl|rfl|rfl|rfl
    ·exact .inr ⟨rfl,rfl⟩
    ·exact .inr ⟨rfl,rfl⟩
    ·exact .inr ⟨rfl,rfl⟩
    ·exact .inl h.rc.1
    ·exact .inl h.rc.2.1
    ·exact .inl h.rc.2.2.1
    ·exact .inl h.rc.2.2.2
   ·match j,h1,h2 with
    |0,h1,h2=>cases h1;cases h2;exact lG h.rl (mx _ ml) rfl
    |1,h1,h2=>cases h1;cases h2;exact lG h.rf (mx _ mf) rfl
    |2,h1,h2=>cases h1;cases h2;exact lG h.ru (mx _ mu) rfl
    |3,h1,h2=>cases h1;cases h2;exact .base (.c _)
    |4,h1,h2=>cases h1;cases h2;exact .base (.c _)
    |5,h1,h2=>cases h1;cases h2;exact .base (.c _)
    |6,h1,h2=>cases h1;cases h2;exact .base (.c _)
  |1,_=>cases ho;exact⟨_,rfl,dU.row h.rl Nat.one_pos hl cl (mx _ ml) (fun q hq=>hH q (.inr (.inl (bl▸hq)))) (fun q hq=> .inr (.inr (.inl (bl▸hq)))) _⟩
  |2,_=>cases ho;exact⟨_,rfl,dU.row h.rf Nat.one_pos hf cf (mx _ mf) (fun q hq=>hH q (.inr (.inr (.inl (bf▸hq))))) (fun q hq=> .inr (.inr (.inr (.inl (bf▸hq))))) _⟩
  |3,_=>cases ho;exact⟨_,rfl,dU.row h.ru Nat.one_pos hu cu (mx _ mu) (fun q hq=>hH q (.inr (.inr (.inr (bu▸hq))))) (fun q hq=> .inr (.inr (.inr (.inr (bu▸hq))))) _⟩
 ·have h1:=Jj hi;have h2:=Jj hj;match i,j,h1,h2 with
  |0,0,_,_=>exact absurd rfl hij
  |1,1,_,_=>exact absurd rfl hij
  |2,2,_,_=>exact absurd rfl hij
  |3,3,_,_=>exact absurd rfl hij
  |0,1,_,_=>cases xe;cases p_;cases hb;rw[bl];exact x1
  |0,2,_,_=>cases xe;cases p_;cases hb;rw[bf];exact x2
  |0,3,_,_=>cases xe;cases p_;cases hb;rw[bu];exact x3
  |1,0,_,_=>cases xe;cases p_;rw[bl]at hb;intro e;cases e;exact x1 hb
  |2,0,_,_=>cases xe;cases p_;rw[bf]at hb;intro e;cases e;exact x2 hb
  |3,0,_,_=>cases xe;cases p_;rw[bu]at hb;intro e;cases e;exact x3 hb
  |1,2,_,_=>cases xe;cases p_;rw[bl]at hb;rw[bf];exact h.lf q hb
  |1,3,_,_=>cases xe;cases p_;rw[bl]at hb;rw[bu];exact h.lu q hb
  |2,3,_,_=>cases xe;cases p_;rw[bf]at hb;rw[bu];exact h.fu q hb
  |2,1,_,_=>cases xe;cases p_;rw[bf]at hb;rw[bl];exact fun e=>h.lf q e hb
  |3,1,_,_=>cases xe;cases p_;rw[bu]at hb;rw[bl];exact fun e=>h.lu q e hb
  |3,2,_,_=>cases xe;cases p_;rw[bu]at hb;rw[bf];exact fun e=>h.fu q e hb
end Go.Proofs.YtcgfgifjkkmmcaaGreatDoor
namespace Go.Proofs.YtcgfgifjkkmmcaaGreatDoor
open Go Go.RowKit Go.Proofs Ab
def Ea:=an @aH (an @Nat.div_one (an @Nat.mul_one (an @aO (an @eY (an @dF (an @wi (an @lX (an @Bool.false_and @dh))))))))
theorem Bn.of{rs:Rs}{w0 w:World}{H0:HS}{H:Nat→Prop}{ov:Nat→Option Value}{N:Nat}{a:Act}{s:St}{b nl nf nu i1 i2 i3:Nat}{ls fs us:List V}(hc:Conc w0 H0 w H ov N a s)(k0:a.tmps.getD 0 undef= .pointer (some ⟨b,0,none⟩))(g0:s.get 0= .pt 0 0)
 (o0:s.ob 0=some ⟨41,7,[.ow 1 i1 nl,.ow 1 i2 nf,.ow 1 i3 nu,.c rs.1,.c rs.2.1,.c rs.2.2.1,.c rs.2.2.2],true,true⟩) (o1:s.ob i1=some ⟨22,1,ls,true,false⟩) (o2:s.ob i2=some ⟨22,1,fs,true,false⟩) (o3:s.ob i3=some ⟨22,1,us,true,false⟩) (d12:i1≠i2) (d13:i1≠i3) (d23:i2≠i3):
 ∃vl vf vu xl xf xu,(∃cap,w.ownsRow 0 41 7 (.slice (some ⟨b,0,none⟩) 1 cap) 1 [vl,vf,vu,rs.1,rs.2.1,rs.2.2.1,rs.2.2.2])∧(w.ownsRow 0 22 1 vl nl xl∧aj w H xl ls)∧(w.ownsRow 0 22 1 vf nf xf∧aj w H xf fs)∧(w.ownsRow 0 22 1 vu nu xu∧aj w H xu us)∧
  (∀q,vl.ownBlock=some q→vf.ownBlock≠some q)∧(∀q,vl.ownBlock=some q→vu.ownBlock≠some q)∧(∀q,vf.ownBlock=some q→vu.ownBlock≠some q)∧∀q,Bq b vl vf vu q→¬H q∧(w0.heap.size≤q∨H0.e q):=by
 have he:=hc.env 0
 rw[k0,g0]at he
 obtain⟨b',u,eb,hu,hbu⟩:=he.mZ
 cases eb
 obtain⟨u',hu',hor⟩:=hc.mem.obj 0 _ o0
 rw[hu]at hu';cases hu'
 obtain⟨vl,vf,vu,hbx,hrs⟩:∃vl vf vu,(∃cap,w.ownsRow 0 41 7 (.slice (some ⟨b,0,none⟩) 1 cap) 1 [vl,vf,vu,rs.1,rs.2.1,rs.2.2.1,rs.2.2.2])∧jU w H ov [vl,vf,vu,rs.1,rs.2.1,rs.2.2.1,rs.2.2.2] [.ow 1 i1 nl,.ow 1 i2 nf,.ow 1 i3 nu,.c rs.1,.c rs.2.1,.c rs.2.2.1,.c rs.2.2.2]:=by
  have seven:∀l:List Value,jU w H ov l [.ow 1 i1 nl,.ow 1 i2 nf,.ow 1 i3 nu,.c rs.1,.c rs.2.1,.c rs.2.2.1,.c rs.2.2.2]→∃x y z,l=[x,y,z,rs.1,rs.2.1,rs.2.2.1,rs.2.2.2]:=fun l hl=>by
   match l,hl with
   |[],hl=>exact absurd hl.1 sy
   |[_],hl=>exact absurd hl.1 sy
   |[_,_],hl=>exact absurd hl.1 sy
   |[_,_,_],hl=>exact absurd hl.1 sy
   |[_,_,_,_],hl=>exact absurd hl.1 sy
   |[_,_,_,_,_],hl=>exact absurd hl.1 sy
   |[_,_,_,_,_,_],hl=>exact absurd hl.1 sy
   |_::_::_::_::_::_::_::_::_,hl=>exact absurd hl.1 sy
   |[x,y,z,p,q,r,u],hl=>
    have e1:=(hl.2 3 p _ rfl rfl).E8;have e2:=(hl.2 4 q _ rfl rfl).E8;have e3:=(hl.2 5 r _ rfl rfl).E8;have e4:=(hl.2 6 u _ rfl rfl).E8;exact⟨x,y,z,by rw[e1,e2,e3,e4]⟩
  rcases hor.bd with ⟨_,⟨b2,cur,rfl,_,hh,hrs⟩|⟨_,n,xs,hown,hrs,_⟩⟩|⟨h',_⟩
  ·cases hbu;obtain⟨x,y,z,hl⟩:=seven cur.toList hrs;rw[hl]at hrs;have hs3:cur.size=7:=by rw[←Array.length_toList,hl];rfl
   exact⟨x,y,z,⟨1,rfl,.inr ⟨_,1,cur,rfl,Nat.zero_le _,hh,Nat.le_refl _,by unfold maxLen;omega,hs3,by rw[hl];rfl⟩⟩,hrs⟩
  ·obtain⟨x,y,z,rfl⟩:=seven xs hrs;have h1:=hown.1;obtain rfl:n=1:=by simp at h1;omega
   rcases hown.2 with ⟨h2,h3⟩|⟨g,cap,cur,rfl,h3⟩
   ·cases h3
   ·cases hbu;exact⟨x,y,z,⟨cap,hown⟩,hrs⟩
  ·cases h'
 have row:∀(v:Value) (i n:Nat) (cs:List V),Rep w H ov v (.ow 1 i n)→s.ob i=some ⟨22,1,cs,true,false⟩→∃xs,w.ownsRow 0 22 1 v n xs∧aj w H xs cs∧ov i=some v∧∀q,v.ownBlock=some q→¬H q∧(w0.heap.size≤q∨H0.e q):=fun v i n cs hv ho=>by
  obtain⟨ba,cap,e,ho',hm,hcp,ha⟩:=hv.fD;obtain⟨u2,hu2,hor2⟩:=hc.mem.obj i _ ho;rw[ho']at hu2;cases hu2;rcases hor2.bd with ⟨h',_⟩|⟨_,_,n',xs,hown,hra,hnm⟩
  ·cases h'
  ·have hb:=lH hown;have hnn:n'=n:=by
    rcases hown.2 with ⟨h1,h2⟩|⟨g',cap',cur',h1,_⟩
    ·rw[e]at h1;cases h1;exact h2
    ·rw[e]at h1;cases h1;rfl
   subst hnn;exact⟨xs,hown,hra,ho',fun q hq=>⟨fun h=>(by have:=(hor2.fz q (hb▸hq)).1 h;cases this),hor2.ow q (hb▸hq)⟩⟩
 obtain⟨xl,l1,l2,l3,l4⟩:=row vl i1 nl ls (hrs.2 0 vl _ rfl rfl) o1
 obtain⟨xf,f1,f2,f3,f4⟩:=row vf i2 nf fs (hrs.2 1 vf _ rfl rfl) o2
 obtain⟨xu,u1,u2,u3,u4⟩:=row vu i3 nu us (hrs.2 2 vu _ rfl rfl) o3
 have bl:=lH l1
 have bf:=lH f1
 have bu:=lH u1
 refine⟨vl,vf,vu,xl,xf,xu,hbx,⟨l1,l2⟩,⟨f1,f2⟩,⟨u1,u2⟩,fun q hq=>bf▸hc.mem.sep i1 i2 _ _ _ _ q d12 o1 o2 l3 f3 (bl.trans hq),fun q hq=>bu▸hc.mem.sep i1 i3 _ _ _ _ q d13 o1 o3 l3 u3 (bl.trans hq),fun q hq=>bu▸hc.mem.sep i2 i3 _ _ _ _ q d23 o2 o3 f3 u3 (bf.trans hq),fun q hq=>?_⟩
 rcases hq with rfl|hq|hq|hq
 ·exact⟨fun h=>(by have:=(hor.fz _ hbu).1 h;cases this),hor.ow _ hbu⟩
 ·exact l4 q hq
 ·exact f4 q hq
 ·exact u4 q hq
def drp:Nat→AC→AC
 |0,A=>A
 |n+1,A=>drp n A.p2
theorem mk_z(m:Nat):(List.replicate m [V.i .u64 0]).flatten=W (List.replicate m 0):=by
 induction m with
 |zero=>rfl
 |succ n ih=>rw[List.replicate_succ,List.flatten_cons,ih,List.replicate_succ];rfl
theorem mk_in(a:List Nat):setAt (W (List.replicate (a.length+5) 0)) 0 (W a)=W (a++List.replicate 5 0):=by
 have key:∀(X A R Y:List V),A.length=R.length→setAt (X++(A++Y)) X.length R=X++(R++Y):=by
  intro X A R Y;induction R generalizing X A with
  |nil=>intro h;cases A with|nil=>rfl|cons a A=>simp at h
  |cons r R ih=>
   intro h;cases A with
   |nil=>simp at h
   |cons a A=>
    have e:(X++(a::A++Y)).set X.length r=(X++[r])++(A++Y):=sy;show setAt ((X++(a::A++Y)).set X.length r) (X.length+1) R=_;rw[e,show X.length+1=(X++[r]).length from sy,ih (X++[r]) A (by simpa using h)];simp
 have h2:=key [] (W (List.replicate a.length 0)) (W a) (W (List.replicate 5 0)) (by rw[aH,aH,List.length_replicate]);simp only[List.nil_append,List.length_nil]at h2;rw[←List.replicate_append_replicate,show W (List.replicate a.length 0++List.replicate 5 0)=W (List.replicate a.length 0)++W (List.replicate 5 0)from by simp[W],h2];simp[W]
def a33:AC:= .seq (.reg [qr 4 (.mv (.k .nl))]) (.seq (.reg [qm 6 1,qr 7 (.len (.t 6)),qr 8 (.bin .add (.t 7) (.k (.i .i64 5))),qr 9 (.mk 31 1 8 [(.i .u64 0)] (.t 8) (.t 8)),qm 5 9]) (.seq (.reg [qm 10 5,qm 11 1,qr 12 (.J3 1 (.t 10) (.t 11))]) (.seq (.Ce [(18,23),(23,28),(19,28),(24,28),(18,30),(23,30),(19,30),(24,30),(28,30),(23,35),(19,35),(24,35),(30,35),(29,35),(31,35),(35,37),(35,38),(35,39)] [qm 13 0,qm 14 0,qm 15 0,qm 16 0,qr 17 (.nc (.t 16)),qr 18 (.zT 0 (.t 17)),qr 19 (.ld false 1 (.t 18)),qm 20 5,qm 21 1,qr 22 (.len (.t 21)),qr 23 (.sub 1 (.t 20) none (some (.t 22))),qr 24 (.Dz 22 1 1 [(.l 1 [])] [(0,(.t 23))]),qr 25 (.app 22 1 24 (.t 19) (.t 24)),qm 26 0,qr 27 (.nc (.t 26)),qr 28 (.zT 1 (.t 27)),qr 29 (.ld false 1 (.t 28)),qm 30 5,qr 31 (.Dz 22 1 1 [(.l 1 [])] [(0,(.t 30))]),qr 32 (.app 22 1 24 (.t 29) (.t 31)),qm 33 0,qr 34 (.nc (.t 33)),qr 35 (.zT 2 (.t 34)),qr 36 (.ld false 1 (.t 35)),qr 37 (.Dz 31 1 0 [] []),qm 38 5,qr 39 (.app 31 1 8 (.t 37) (.t 38)),qr 40 (.Dz 22 1 1 [(.l 1 [])] [(0,(.t 39))]),qr 41 (.app 22 1 24 (.t 36) (.t 40)),qr 42 (.nc (.t 13)),qr 43 (.zT 0 (.t 42)),qn (.stk (.t 43) (.t 25)),qr 44 (.nc (.t 14)),qr 45 (.zT 1 (.t 44)),qn (.stk (.t 45) (.t 32)),qr 46 (.nc (.t 15)),qr 47 (.zT 2 (.t 46)),qn (.stk (.t 47) (.t 41))]) (.seq (.reg [qm 48 5,qm 49 1,qr 50 (.len (.t 49)),qr 51 (.sub 1 (.t 48) none (some (.t 50))),qm 4 51]) (.ret)))))
theorem Q_(a:List Nat)(la:a.length≤1000000000):
 r_ (ah Tryz.prog J0) (iJ Tryz.prog) (a33.p1.seq (a33.p2.p1.seq a33.p2.p2.p1)) (fun ex s=>ex= .normal∧∃i,s.get 5= .ow 1 i (a.length+5)∧s.ob i=some ⟨31,1,W (a++List.replicate 5 0),true,false⟩)
  ⟨[(1,.l 1 (W a))],[],0⟩:=by
 have hz:=mk_z (a.length+5)
 have hmk:=mk_in a
 have ht:(W a).take (a.length+5)=W a:=List.take_of_length_le (by rw[aH];omega)
 have hl:(W (List.replicate (a.length+5) 0)).length=a.length+5:=by rw[aH,List.length_replicate]
 have w1:IntKind.i64.wrap ((a.length:Nat)+5:Int)=((a.length+5:Nat):Int):=by rw[wi om];rfl
 apply dG
 unfold a33
 simp only[fZ,fC,qm,qr,qn,AC.p1,AC.p2]
 repeat first
  |(refine hK _ ?_;clear hK K)
  |((first|refine ay (fun K hK=>?_)|refine aB (fun K hK=>?_)|refine au (fun K hK=>?_));simp(disch:=(first|omega|assumption)) only[S1,seval,-Int.reduceToNat,-List.reduceReplicate,a_.sb,a_.mut,bZ,↓Bool.false_eq_true,beq_self_eq_true,ite_self,Ea,w1,hz];refine hK _ ?_;clear hK K)
  |simp only[Sv,↓reduceIte,Nat.reduceEqDiff]
 refine aJ (ai @hl (ai @ht (ai @hmk @Ea))) ?_
 exact⟨trivial,_,rfl,rfl⟩
def inB(rs:Rs)(n:Nat)(ls fs us:List V)(g cap:Nat)(a:List Nat)(s:St):Prop:=
 ∃i1 i2 i3,s.ob 0=some ⟨41,7,[.ow 1 i1 (n+1),.ow 1 i2 (n+1),.ow 1 i3 (n+1),.c rs.1,.c rs.2.1,.c rs.2.2.1,.c rs.2.2.2],true,true⟩∧i1≠i2∧i1≠i3∧i2≠i3∧
  s.ob i1=some ⟨22,1,ls++[.kn (.slice (some ⟨g,0,none⟩) a.length cap) (.l 1 (W a))],true,false⟩∧s.ob i2=some ⟨22,1,fs++[.kn (.slice (some ⟨g,0,none⟩) (a.length+5) cap) (.l 1 (W (a++List.replicate 5 0)))],true,false⟩∧s.ob i3=some ⟨22,1,us++[.l 1 (W (a++List.replicate 5 0))],true,false⟩∧
  s.get 4= .kn (.slice (some ⟨g,0,none⟩) a.length cap) (.l 1 (W a))∧s.get 0= .pt 0 0
theorem Rf(rs:Rs)(n:Nat)(ls fs us:List V)(g cap:Nat)(a:List Nat)(hn:n≤1000)(la:a.length≤1000000000)(hcap:0<cap)(hrc:rs.1.oneCell'=true∧rs.2.1.oneCell'=true∧rs.2.2.1.oneCell'=true∧rs.2.2.2.oneCell'=true):
 r_ (ah Tryz.prog J0) (iJ Tryz.prog) (drp 3 a33) (fun ex s=>(ex= .normal∨ex= .ret)∧inB rs n ls fs us g cap a s)
  ⟨[(0,.pt 0 0),(1,.l 1 (W a)),(5,.kn (.slice (some ⟨g,0,none⟩) (a.length+5) cap) (.l 1 (W (a++List.replicate 5 0))))],bO rs n n n ls fs us,4⟩:=by
 have hl2:(W (a++List.replicate 5 0)).length=a.length+5:=by rw[aH,List.length_append,List.length_replicate]
 have hs:(W (a++List.replicate 5 0)).take a.length=W a:=by
  rw[show W (a++List.replicate 5 0)=W a++W (List.replicate 5 0)from by simp[W],List.take_append_of_le_length (by rw[aH];exact Nat.le_refl _),List.take_of_length_le (by rw[aH];exact Nat.le_refl _)]
 have hex:(∃g',some (⟨g,0,none⟩:Addr)=some ⟨g',0,none⟩)=True:=eq_true ⟨g,rfl⟩
 have hle:((a.length:Nat):Int)≤((a.length+5:Nat):Int):=om
 obtain⟨cc1,cc2,cc3,cc4⟩:V.cell (.c rs.1)=true∧V.cell (.c rs.2.1)=true∧V.cell (.c rs.2.2.1)=true∧V.cell (.c rs.2.2.2)=true:=hrc
 apply dG
 unfold a33
 simp only[fZ,fC,qm,qr,qn,AC.p1,AC.p2,drp,bO]
 refine aJ (ai @or_true (ai @cc4 (ai @cc3 (ai @cc2 (ai @cc1 (ai @hle (ai @hex (ai @hl2 (ai @hs @Ea))))))))) ?_
 exact⟨.inr trivial,_,_,_,rfl,dc,dc,dc,rfl,rfl,rfl,rfl,rfl⟩
end Go.Proofs.YtcgfgifjkkmmcaaGreatDoor
namespace Go.Proofs.YtcgfgifjkkmmcaaGreatDoor
open Go Go.RowKit Go.Proofs Ab
theorem AU{w0 w:World}{H0:HS}{H:Nat→Prop}{ov:Nat→Option Value}{N:Nat}{a:Act}{s:St}{t i n e sz:Nat}{cs:List V}(hc:Conc w0 H0 w H ov N a s)(g:s.get t= .ow sz i n)(ho:s.ob i=some ⟨e,sz,cs,true,false⟩):
 ∃xs,w.ownsRow 0 e sz (a.tmps.getD t undef) n xs∧aj w H xs cs∧ov i=some (a.tmps.getD t undef)∧∀q,(a.tmps.getD t undef).ownBlock=some q→¬H q∧(w0.heap.size≤q∨H0.e q):=by
 have he:=hc.env t
 rw[g]at he
 generalize a.tmps.getD t undef=v at*
 obtain⟨ba,cap,e1,ho',hm,hcp,ha⟩:=he.fD
 obtain⟨u,hu,hor⟩:=hc.mem.obj i _ ho
 rw[ho']at hu;cases hu
 rcases hor.bd with ⟨h',_⟩|⟨_,_,n',xs,hown,hra,hnm⟩
 ·cases h'
 ·have hb:=lH hown;have hnn:n'=n:=by
   rcases hown.2 with ⟨h1,h2⟩|⟨g',cap',cur,h1,_⟩
   ·rw[e1]at h1;cases h1;exact h2
   ·rw[e1]at h1;cases h1;rfl
  subst hnn;exact⟨xs,hown,hra,ho',fun q hq=>⟨fun h=>(by have:=(hor.fz q (hb▸hq)).1 h;cases this),hor.ow q (hb▸hq)⟩⟩
def InR(w:World)(b:Nat)(rs:Rs)(vl vf vu:Value)(Lv Fv Uv:List Value)(a:List Nat)(Ha:Nat→Prop)(e:Ending)(w':World):Prop:=
 ∃g cap oI oJ oK u Hu,e= .returned (.slice (some ⟨g,0,none⟩) a.length cap)∧w.heap.size≤g∧aI w (Bq b vl vf vu) w'∧w'.ownsRow w.heap.size 31 1 (.slice (some ⟨g,0,none⟩) (a.length+5) cap) (a.length+5) (Wv (a++List.replicate 5 0))∧
  Bn w' b rs oI oJ oK (Lv++[.slice (some ⟨g,0,none⟩) a.length cap]) (Fv++[.slice (some ⟨g,0,none⟩) (a.length+5) cap]) (Uv++[u])∧Rep0 w' Hu u (.l 1 (W (a++List.replicate 5 0)))∧(∀q,Hu q→q<w'.heap.size∧¬Bq b oI oJ oK q)∧(∀q,Bq b oI oJ oK q→Bq b vl vf vu q∨w.heap.size≤q)∧¬Bq b oI oJ oK g∧∀q,Hu q→q<w.heap.size→Ha q∨Bq b vl vf vu q
theorem in_raw{rs:Rs}{w:World}{b n:Nat}{vl vf vu va:Value}{Lv Fv Uv:List Value}{a:List Nat}{Ha:Nat→Prop}(hb:Bn w b rs vl vf vu Lv Fv Uv)(gu:∀q,Ha q→q<w.heap.size)(hHB:∀q,Bq b vl vf vu q→¬Ha q)(hva:Rep0 w Ha va (.l 1 (W a)))(l1:Lv.length=n)(l2:Fv.length=n)(l3:Uv.length=n)(cl:∀v,v∈Lv→v.oneCell'=true)(cf:∀v,v∈Fv→v.oneCell'=true)(cu:∀v,v∈Uv→v.oneCell'=true)(hn:n≤1000)(la:a.length≤1000000000):
 Calls Tryz.prog 33 #[.pointer (some ⟨b,0,none⟩),va] w (InR w b rs vl vf vu Lv Fv Uv a Ha):=by
 refine Rh Tryz.func33 rfl (vs:=[.pointer (some ⟨b,0,none⟩),va]) (by show 2≤_;decide) (H:=Ha) (E:=fun _=>False) (ks:=[(0,.pointer (some ⟨b,0,none⟩)),(1,va)]) (UG:=fun _=>none)
  (s0:=⟨[(1,.l 1 (W a))],[],0⟩) ⟨aI.refl _ _,NI _ _,gu,fun b h _=> .inl h,fun id o h=>(by cases h),fun i j oi oj vi vj q _ h=>(by cases h)⟩ (fun m v h=>?ks) (fun k hk=>?env) (fun k hk=>?rest) (fun _ _=>rfl) (fun act iE=>?_)
 case ks=>
  simp only[List.mem_cons,Prod.mk.injEq,List.not_mem_nil,or_false]at h;rcases h with ⟨rfl,rfl⟩|⟨rfl,rfl⟩
  ·exact⟨sy,rfl⟩
  ·exact⟨sy,rfl⟩
 case env=>
  match k,hk with
  |0,_=>exact .any _
  |1,_=>exact .base hva
 case rest=>
  match k,hk with
  |k+2,_=>rfl
 have nk:∀(h:Nat→Prop) (e:Nat→Prop) (A:AC),FO 0 A=true→FO 1 A=true→BD ⟨h,e,[(0,.pointer (some ⟨b,0,none⟩)),(1,va)]⟩ A:=fun h e A h0 h1 m v hm=>by
  simp only[List.mem_cons,Prod.mk.injEq,List.not_mem_nil,or_false]at hm;rcases hm with ⟨rfl,_⟩|⟨rfl,_⟩
  ·exact h0
  ·exact h1
 refine Ri (A1:=a33.p1) (A2:=a33.p2.p1.seq a33.p2.p2.p1) aX kf (nk _ _ _ rfl rfl) iE (Q_ a la) ?_
 intro y1 w1 G1 ov1 s1 hv1 hc1
 refine Ri (A1:=a33.p2.p1) (A2:=a33.p2.p2.p1) aX kf (nk _ _ _ rfl rfl) hc1 hv1 ?_
 intro y2 w2 G2 ov2 s2 hv2 hc2
 refine WH (A1:=a33.p2.p2.p1) aX kf (nk _ _ _ rfl rfl) hc2 hv2 ?_
 intro y3 w3 G3 ov3 s3 hK hc3
 obtain⟨i,g5,o5⟩:=hK
 obtain⟨x5,O5,R5,V5,B5⟩:=AU hc3 g5 o5
 have hB3:Below w.heap.size w w3:=hc3.mem.bel.below (fun _ h=>h)
 have hz3:=hc3.EZ
 have hd3:=hc3.BZ
 have kp3:=hc3.kp
 obtain⟨g,cap,e5⟩:∃g cap,y3.tmps.getD 5 undef= .slice (some ⟨g,0,none⟩) (a.length+5) cap:=by
  rcases O5.2 with ⟨_,h⟩|⟨g,cap,cur,h,_⟩
  ·omega
  ·exact⟨g,cap,h⟩
 have hg:w.heap.size≤g:=(B5 g (by rw[e5];rfl)).2.elim id False.elim
 have hx5:=CY R5
 subst hx5
 rw[e5]at O5
 have hg3:g<w3.heap.size:=(O5.lt g rfl).2
 have O5':w3.ownsRow w.heap.size 31 1 (.slice (some ⟨g,0,none⟩) (a.length+5) cap) (a.length+5) (Wv (a++List.replicate 5 0)):=ownB O5 (fun q hq=>by cases hq;exact hg)
 have hcap:0<cap:=by
  rcases O5.2 with ⟨h,_⟩|⟨_,_,_,h,_,_,h2,_⟩
  ·cases h
  ·cases h;omega
 clear iE hc1 hc2 hc3 hv1 hv2 g5 o5 V5
 have hb3:=hb.below hB3
 have cc:∀{L:List Value},(∀v,v∈L→v.oneCell'=true)→∀x,x∈L.map V.c→x.cell=true:=fun h x hx=>by
  obtain⟨v,hv,rfl⟩:=List.mem_map.1 hx;exact h v hv
 have rc:∀{L:List Value} {H:Nat→Prop},aj w3 H L (L.map V.c):=fun {L H}=>⟨sy,fun j v x h1 h2=>by
  simp only[List.getElem?_map,h1,Option.map_some,Option.some.injEq]at h2;subst h2;exact .c v⟩
 have hltB:=hb.lt
 obtain⟨capb,hM⟩:=hb3.mem (H:=fun q=>Ha q∨q=g) (ks:=[(0,.pointer (some ⟨b,0,none⟩)),(1,va)]) (fun q hq=>hq.elim (fun h=>by have:=gu q h;have:=hB3.size;omega) (fun h=>by rw[h];exact hg3))
  (fun q hq h=>h.elim (hHB q hq) (fun h=>by have:=hltB q hq;omega)) rc rc rc (cc cl) (cc cf) (cc cu) om om om
 rw[l1,l2,l3]at hM
 refine wp_mono (iw (J:=J0) (w0:=w3) (H0:=⟨fun q=>Ha q∨q=g,Bq b vl vf vu,[(0,.pointer (some ⟨b,0,none⟩)),(1,va)]⟩) (N:=Tryz.f33.ntmps) aX (fun w' _=>trivial) _ (drp 3 a33) kf (nk _ _ _ rfl rfl) _ _ y3 w3 _ _ ⟨hM,hz3,hd3,kp3,?env2,fun id hid=>?PL⟩ (Rf rs n (Lv.map V.c) (Fv.map V.c) (Uv.map V.c) g cap a hn la hcap hb.rc)) fun ex a' w' hq=>?_
 case env2=>
  refine Ji (fun t=>y3.tmps.getD t undef) _ fun p hp=>?_
  simp only[List.mem_cons,List.not_mem_nil,or_false]at hp;rcases hp with rfl|rfl|rfl
  ·show Rep _ _ _ (y3.tmps.getD 0 undef) _;rw[kp3 0 _ (.head _)];exact .pt 0 0 b _ rfl rfl
  ·show Rep _ _ _ (y3.tmps.getD 1 undef) _;rw[kp3 1 _ (.tail _ (.head _))];exact .base (hva.mono (fun q hq=> .inl hq) (fun q hq=>hB3.block q (gu q hq)))
  ·show Rep _ _ _ (y3.tmps.getD 5 undef) _;rw[e5];exact .base (.kn _ _ (CX Nat.one_pos O5 (D_ _) (by unfold maxLen;omega) (fun q hq=>by cases hq;exact .inr rfl)))
 case PL=>
  match id,hid with
  |k+4,_=>rfl
 have last:∀(s':St) (H':Nat→Prop) (bJ:Nat→Option Value),inB rs n (Lv.map V.c) (Fv.map V.c) (Uv.map V.c) g cap a s'→Conc w3 ⟨fun q=>Ha q∨q=g,Bq b vl vf vu,[(0,.pointer (some ⟨b,0,none⟩)),(1,va)]⟩ w' H' bJ Tryz.f33.ntmps a' s'→
  a'.defers=[]∧∃r,(results Tryz.f33 a'.tmps).run Tryz.prog w'= .ok r w'∧InR w b rs vl vf vu Lv Fv Uv a Ha (.returned r) w':=by
  rintro s' H' bJ ⟨i1,i2,i3,o0,d12,d13,d23,o1,o2,o3,g4,g0⟩ hc'
  obtain⟨oI,oJ,oK,xl,xf,xu,hbx,⟨L1,L2⟩,⟨F1,F2⟩,⟨U1,U2⟩,s12,s13,s23,hq2⟩:=Bn.of hc' (hc'.kp 0 _ (.head _)) g0 o0 o1 o2 o3 d12 d13 d23
  have one:∀{ys:List Value} {x:V},aj w' H' ys [x]→∃y,ys=[y]∧Rep0 w' H' y x:=fun {ys x} h=>by
   match ys,h.1 with
   |[y],_=>exact⟨y,rfl,h.2 0 y x rfl rfl⟩
  obtain⟨yl,rfl,hyl⟩:=tX L2
  obtain⟨zl,rfl,hzl⟩:=one hyl
  obtain⟨rfl,_⟩:=(Rep.up (ov:=fun _=>none) hzl).DC
  obtain⟨yf,rfl,hyf⟩:=tX F2
  obtain⟨zf,rfl,hzf⟩:=one hyf
  obtain⟨rfl,_⟩:=(Rep.up (ov:=fun _=>none) hzf).DC
  obtain⟨yu,rfl,hyu⟩:=tX U2
  obtain⟨u,rfl,hzu⟩:=one hyu
  have he4:=hc'.env 4
  rw[g4]at he4
  obtain⟨e4,_⟩:=he4.DC
  have hbel:=hc'.mem.bel
  have hs3:=hB3.size
  refine⟨hc'.BZ,_,aV (show bG Tryz.f33.results.toList=some [4]from rfl) _ _,g,cap,oI,oJ,oK,u,H',?_,hg,⟨hbel.os.trans hB3.os,hbel.tape.trans hB3.tape,hbel.output.trans hB3.output,by have:=hbel.size;omega,fun q hq hne=>(hbel.block q om hne).trans (hB3.block q hq)⟩,
   aP O5' (fun q hq=>hbel.block q (O5'.lt q hq).2 (fun h=>by cases hq;have:=hltB g h;omega)),⟨hbx,by rw[List.length_append,l1];exact L1,by rw[List.length_append,l2];exact F1,by rw[List.length_append,l3];exact U1,s12,s13,s23,hb.rc⟩,hzu,fun q hq=>⟨hc'.mem.uk q hq,fun h=>(hq2 q h).1 hq⟩,fun q hq=>(hq2 q hq).2.elim (fun h=> .inr om) .inl,fun h=>?_,fun q hq hlt=>(hc'.mem.low q hq om).elim (fun h=>h.elim .inl fun e=>om) .inr⟩
  ·show Ending.returned (a'.tmps.getD 4 undef)=_;rw[e4]
  ·rcases(hq2 g h).2 with h|h
   ·omega
   ·have:=hltB g h;omega
 cases ex with
 |normal=>obtain⟨s',H',bJ,hq,hc'⟩:=hq;exact⟨.inl rfl,last s' H' bJ hq.2 hc'⟩
 |ret=>obtain⟨s',H',bJ,hq,hc'⟩:=hq;exact⟨.inr rfl,last s' H' bJ hq.2 hc'⟩
 |exit i=>obtain⟨s',H',bJ,hq,hc'⟩:=hq;exact absurd hq.1 sy
 |goto l=>exact hq.elim
 |panic ch=>exact hq.elim
 |outgrown=>exact hq.elim
end Go.Proofs.YtcgfgifjkkmmcaaGreatDoor
namespace Go.Proofs.YtcgfgifjkkmmcaaGreatDoor
open Go Go.RowKit Go.Proofs Ab
def WI:=an @aH (an @Nat.div_one (an @Nat.mul_one (an @aO (an @eY (an @dF (an @wi (an @lX (an @Bool.false_and @dh))))))))
theorem Rj(vs:List Value):(vs.map V.c).length=vs.length:=List.length_map _
theorem mc_get(vs:List Value)(i:Nat)(h:i<vs.length):(vs.map V.c).getD i .un= .c (vs.getD i undef):=by
 simp[List.getD_eq_getElem?_getD,h]
def a60:AC:= .seq (.reg [qr 4 (.mv (.k (.i .i64 0)))]) (.blk 0 (.loop (.seq (.seq (.reg [qm 5 4,qm 6 1,qr 7 (.len (.t 6)),qr 8 (.bin .lss (.t 5) (.t 7))]) (.cond (.t 8) (.skip) (.exit 0))) (.seq (.blk 1 (.Ce [(16,21),(21,26),(17,26),(22,26),(21,32),(17,32),(22,32),(27,32),(28,32)] [qm 11 0,qm 12 0,qm 13 0,qm 14 0,qr 15 (.nc (.t 14)),qr 16 (.zT 0 (.t 15)),qr 17 (.ld false 1 (.t 16)),qm 18 1,qm 19 4,qr 20 (.idx 1 (.t 18) (.t 19)),qr 21 (.ld false 1 (.t 20)),qr 22 (.Dz 22 1 1 [(.l 1 [])] [(0,(.t 21))]),qr 23 (.app 22 1 24 (.t 17) (.t 22)),qm 24 0,qr 25 (.nc (.t 24)),qr 26 (.zT 1 (.t 25)),qr 27 (.ld false 1 (.t 26)),qr 28 (.Dz 22 1 1 [(.l 1 [])] [(0,(.k .nl))]),qr 29 (.app 22 1 24 (.t 27) (.t 28)),qm 30 0,qr 31 (.nc (.t 30)),qr 32 (.zT 2 (.t 31)),qr 33 (.ld false 1 (.t 32)),qr 34 (.Dz 22 1 1 [(.l 1 [])] [(0,(.k .nl))]),qr 35 (.app 22 1 24 (.t 33) (.t 34)),qr 36 (.nc (.t 11)),qr 37 (.zT 0 (.t 36)),qn (.stk (.t 37) (.t 23)),qr 38 (.nc (.t 12)),qr 39 (.zT 1 (.t 38)),qn (.stk (.t 39) (.t 29)),qr 40 (.nc (.t 13)),qr 41 (.zT 2 (.t 40)),qn (.stk (.t 41) (.t 35))])) (.reg [qm 9 4,qr 10 (.bin .add (.t 9) (.k (.i .i64 1))),qm 4 10])))))
def abk:AC→AC
 | .blk _ c=>c
 |c=>c
def alp:AC→AC
 | .loop c=>c
 |c=>c
def outK(rs:Rs)(n:Nat)(ls fs us:List V)(v:Value)(s:St):Prop:=
 ∃i1 i2 i3,s.ob 0=some ⟨41,7,[.ow 1 i1 (n+1),.ow 1 i2 (n+1),.ow 1 i3 (n+1),.c rs.1,.c rs.2.1,.c rs.2.2.1,.c rs.2.2.2],true,true⟩∧i1≠i2∧i1≠i3∧i2≠i3∧
  s.ob i1=some ⟨22,1,ls++[.c v],true,false⟩∧s.ob i2=some ⟨22,1,fs++[.l 1 []],true,false⟩∧s.ob i3=some ⟨22,1,us++[.l 1 []],true,false⟩∧s.get 0= .pt 0 0
theorem Rk(rs:Rs)(n i:Nat)(ls fs us:List V)(vs:List Value)(hn:n≤3000)(hv:vs.length≤1000)(hi:i<vs.length)(hc:V.cell (.c (vs.getD i undef))=true)(hrc:rs.1.oneCell'=true∧rs.2.1.oneCell'=true∧rs.2.2.1.oneCell'=true∧rs.2.2.2.oneCell'=true):
 r_ (ah Tryz.prog J0) (iJ Tryz.prog) (alp (abk a60.p2)).p2.p1 (fun ex s=>ex= .normal∧outK rs n ls fs us (vs.getD i undef) s)
  ⟨[(0,.pt 0 0),(1,.l 1 (vs.map V.c)),(4,.i .i64 (i:Int))],bO rs n n n ls fs us,4⟩:=by
 have hl:=Rj vs
 have hg:=mc_get vs i hi
 obtain⟨cc1,cc2,cc3,cc4⟩:V.cell (.c rs.1)=true∧V.cell (.c rs.2.1)=true∧V.cell (.c rs.2.2.1)=true∧V.cell (.c rs.2.2.2)=true:=hrc
 apply dG
 unfold a60
 simp only[fZ,fC,qm,qr,qn,AC.p1,AC.p2,abk,alp,bO]
 refine aJ (ai @or_true (ai @cc4 (ai @cc3 (ai @cc2 (ai @cc1 (ai @hc (ai @hg (ai @hl @WI)))))))) ?_
 exact⟨trivial,_,_,_,rfl,dc,dc,dc,rfl,rfl,rfl,rfl⟩
end Go.Proofs.YtcgfgifjkkmmcaaGreatDoor
namespace Go.Proofs.YtcgfgifjkkmmcaaGreatDoor
open Go Go.RowKit Go.Proofs Ab
def q1:Code→Code
 | .seq a _=>a
 |c=>c
def q2:Code→Code
 | .seq _ b=>b
 |c=>c
def qb:Code→Code
 | .block _ c=>c
 |c=>c
def ql:Code→Code
 | .loop c=>c
 |c=>c
def qd:Nat→Code→Code
 |0,c=>c
 |n+1,c=>qd n (q2 c)
def qf(f:Func):Code:=f.body.getD .skip
theorem ak(a:Act)(t:Nat):a.eval (.tmp t)=a.tmps.getD t undef:=rfl
theorem ae{t:Array Value}{d k:Nat}{v u:Value}(h:d≠k):(t.setIfInBounds d v).getD k u=t.getD k u:=by
 simp only[Array.getD_eq_getD_getElem?];rw[Array.getElem?_setIfInBounds_ne h]
theorem aA{t:Array Value}{d:Nat}{v u:Value}(h:d<t.size):(t.setIfInBounds d v).getD d u=v:=by
 simp only[Array.getD_eq_getD_getElem?];rw[Array.getElem?_setIfInBounds_self_of_lt h];rfl
theorem gI{t:Array Value}{N k:Nat}{v:Value}(hz:t.size=N)(h:t.getD k undef=v)(hk:k<N):t[k]' om=v:=by
 rw[←h];simp[hz,hk]
theorem dm{P:Program}{f:FuncId}{fn:Func}{c:Code}{vs:List Value}{w:World}{R:Ending→World→Prop}(hf:P.funcs[f]? =some fn)(hb:fn.body=some c)(hn:vs.length≤fn.ntmps)
 (k:∀a:Act,a.tmps.size=fn.ntmps→(∀j,j<vs.length→a.tmps.getD j undef=vs.getD j undef)→a.defers=[]→c.wp P (bodyPost P fn R) a w):Calls P f vs.toArray w R:=by
 refine calls_of_wp hf hb (k _ ?_ ?_ rfl)
 ·simp;omega
 ·intro j hj;simp only[Array.getD_eq_getD_getElem?,List.getD];rw[Array.getElem?_append_left (by simpa using hj)];simp
end Go.Proofs.YtcgfgifjkkmmcaaGreatDoor
namespace Go.Proofs.YtcgfgifjkkmmcaaGreatDoor
open Go Go.RowKit Go.Proofs Ab
def OutR(w:World)(b:Nat)(rs:Rs)(vl vf vu:Value)(Lv Fv Uv vs:List Value)(e:Ending)(w':World):Prop:=
 ∃oI oJ oK Fs Us,e= .returned (.tuple #[])∧aI w (Bq b vl vf vu) w'∧Bn w' b rs oI oJ oK (Lv++vs) (Fv++Fs) (Uv++Us)∧Fs.length=vs.length∧Us.length=vs.length∧(∀v,v∈Fs→∃a c,v= .slice a 0 c)∧(∀v,v∈Us→∃a c,v= .slice a 0 c)∧∀q,Bq b oI oJ oK q→Bq b vl vf vu q∨w.heap.size≤q
theorem nil1{w:World}{H:Nat→Prop}{v:Value}(h1:Rep0 w H v (.l 1 [])):∃a c,v= .slice a 0 c:=by
 obtain⟨a,n,cap,_,_,_,rfl,_,h2,_⟩:=(Rep.up (ov:=fun _=>none) h1).nZ;have:n=0:=by simpa using h2.symm
 subst this;exact⟨a,cap,rfl⟩
def outL(f:Func):Code:=ql (qb (q2 (qf f)))
theorem out_cond{a:Act}{w:World}{R:Exit→Act→World→Prop}{va:Option Addr}{m vc i:Nat}(hz:a.tmps.size=42)(h1:a.tmps.getD 1 undef= .slice va m vc)(h4:a.tmps.getD 4 undef= .int .i64 (i:Int))(hm:m≤1000)
 (kt:(i:Int)<(m:Int)→∀a':Act,a'.tmps.size=42→(∀t,t<5→a'.tmps.getD t undef=a.tmps.getD t undef)→a'.defers=a.defers→R .normal a' w)
 (kf:¬(i:Int)<(m:Int)→∀a':Act,a'.defers=a.defers→R (.exit 0) a' w):(q1 (outL Tryz.f60)).wp Tryz.prog R a w:=by
 have g1:=gI hz h1 dc
 have g4:=gI hz h4 dc
 have hA:=PLift.up (And.intro kt kf)
 clear kt kf
 by_cases hi:(i:Int)<(m:Int)
 ·refine wp_seq_k fun K0 hK0=>?_
  have hk0:=PLift.up hK0;clear hK0;refine wp_region_lit ?_;go_wp2;refine hk0.down _ _ ?_;refine wp_cond_true (by rw[ak];dsimp only;rw[aA (by simp[hz])]) ?_;go_wp2;refine hA.down.1 hi _ (by simp[hz]) (fun t ht=>?_) rfl;dsimp only;rw[ae om,ae om,ae om,ae om]
 ·refine wp_seq_k fun K0 hK0=>?_
  have hk0:=PLift.up hK0;clear hK0;refine wp_region_lit ?_;go_wp2;refine hk0.down _ _ ?_;refine wp_cond_false (by rw[ak];dsimp only;rw[aA (by simp[hz])]) ?_;go_wp2;exact hA.down.2 om _ rfl
theorem Rn{a:Act}{w:World}{R:Exit→Act→World→Prop}{i:Nat}(hz:a.tmps.size=42)(h4:a.tmps.getD 4 undef= .int .i64 (i:Int))(hi:i≤1000)
 (kk:∀a':Act,a'.tmps.size=42→(∀t,t<4→a'.tmps.getD t undef=a.tmps.getD t undef)→a'.tmps.getD 4 undef= .int .i64 ((i:Int)+1)→a'.defers=a.defers→R .normal a' w):(q2 (q2 (outL Tryz.f60))).wp Tryz.prog R a w:=by
 have g4:=gI hz h4 dc
 have jH:=PLift.up kk
 clear kk
 refine wp_region_lit ?_
 go_wp2
 refine jH.down _ (by simp[hz]) (fun t ht=>?_) ?_ rfl
 ·dsimp only;rw[ae om,ae om,ae om]
 ·dsimp only;rw[aA (by simp[hz])]
structure OutI(w:World)(b:Nat)(rs:Rs)(vl vf vu:Value)(Lv Fv Uv vs:List Value)(i:Nat)(wr:World):Prop where
 ex:∃oI oJ oK Fs Us,Bn wr b rs oI oJ oK (Lv++vs.take i) (Fv++Fs) (Uv++Us)∧Fs.length=i∧Us.length=i∧(∀v,v∈Fs→∃a c,v= .slice a 0 c)∧(∀v,v∈Us→∃a c,v= .slice a 0 c)∧∀q,Bq b oI oJ oK q→Bq b vl vf vu q∨w.heap.size≤q
 bel:aI w (Bq b vl vf vu) wr
theorem WJ{rs:Rs}{w:World}{b n:Nat}{vl vf vu va:Value}{Lv Fv Uv vs:List Value}{Ha:Nat→Prop}(hb:Bn w b rs vl vf vu Lv Fv Uv)(gu:∀q,Ha q→q<w.heap.size)(hHB:∀q,Bq b vl vf vu q→¬Ha q)(hva:Rep0 w Ha va (.l 1 (vs.map V.c)))(l1:Lv.length=n)(l2:Fv.length=n)(l3:Uv.length=n)(cl:∀v,v∈Lv→v.oneCell'=true)(cf:∀v,v∈Fv→v.oneCell'=true)(cu:∀v,v∈Uv→v.oneCell'=true)(cv:∀v,v∈vs→v.oneCell'=true)(hn:n≤1000)(hm:vs.length≤1000):
 Calls Tryz.prog 60 #[.pointer (some ⟨b,0,none⟩),va] w (OutR w b rs vl vf vu Lv Fv Uv vs):=by
 have cc:∀{L:List Value},(∀v,v∈L→v.oneCell'=true)→∀x,x∈L.map V.c→x.cell=true:=fun h x hx=>by
  obtain⟨v,hv,rfl⟩:=List.mem_map.1 hx;exact h v hv
 have rc:∀{L:List Value} {w:World} {H:Nat→Prop},aj w H L (L.map V.c):=fun {L w H}=>⟨sy,fun j v x h1 h2=>by
  simp only[List.getElem?_map,h1,Option.map_some,Option.some.injEq]at h2;subst h2;exact .c v⟩
 obtain⟨aa,am,ac,_,_,_,rfl,_,hlen,_⟩:=(Rep.up (ov:=fun _=>none) hva).nZ
 obtain rfl:am=vs.length:=by rw[Rj]at hlen;omega
 refine dm (vs:=[.pointer (some ⟨b,0,none⟩),.slice aa vs.length ac]) Tryz.func60 (c:=qf Tryz.f60) rfl (by show 2≤_;decide) fun a0 z0 e0 d0=>?_
 have e1:a0.tmps.getD 1 undef= .slice aa vs.length ac:=e0 1 (by show 1<2;decide)
 have e0:a0.tmps.getD 0 undef= .pointer (some ⟨b,0,none⟩):=e0 0 (by show 0<2;decide)
 change a0.tmps.size=42 at z0
 refine wp_seq_k fun K0 hK0=>?_
 have hk0:=PLift.up hK0
 clear hK0
 refine wp_region_lit ?_
 go_wp2
 refine hk0.down _ _ ?_
 refine wp_block ?_
 refine wp_loop (fun a' wr=>∃i:Nat,i≤vs.length∧a'.tmps.size=42∧a'.tmps.getD 0 undef= .pointer (some ⟨b,0,none⟩)∧a'.tmps.getD 1 undef= .slice aa vs.length ac∧a'.tmps.getD 4 undef= .int .i64 (i:Int)∧a'.defers=[]∧OutI w b rs vl vf vu Lv Fv Uv vs i wr)
  (fun a' _=>vs.length-(intOf (a'.tmps.getD 4 undef)).toNat) ?_ ?_
 ·refine⟨0,Nat.zero_le _,by simp[z0],?_,?_,?_,by first|rfl|exact d0,⟨vl,vf,vu,[],[],by simpa using hb,rfl,rfl,fun v h=>(by simp at h),fun v h=>(by simp at h),fun q h=> .inl h⟩,aI.refl _ _⟩
  ·dsimp only;rw[ae dc];exact e0
  ·dsimp only;rw[ae dc];exact e1
  ·dsimp only;rw[aA (by simp[z0])];rfl
 ·rintro a' wr ⟨i,hi,hz,h0,h1,h4,hd,hI⟩;refine wp_seq ?_;refine out_cond hz h1 h4 hm (fun hlt a1 hz1 hs1 hd1=>?_) (fun hge a1 hd1=>?_)
  ·obtain⟨⟨WL,WM,WN,Fs,Us,hB,hF,hU,fn,un,hq⟩,hbel⟩:=hI;have hilt:i<vs.length:=om;have hnn:(Lv++vs.take i).length=n+i:=by rw[List.length_append,List.length_take];omega
   have hnf:(Fv++Fs).length=n+i:=by rw[List.length_append];omega
   have hnu:(Uv++Us).length=n+i:=by rw[List.length_append];omega
   have Rq:∀{L M:List Value},(∀v,v∈L→v.oneCell'=true)→(∀v,v∈M→v.oneCell'=true)→∀v,v∈L++M→v.oneCell'=true:=fun h1 h2 v hv=>(List.mem_append.1 hv).elim (h1 v) (h2 v)
   have nilc:∀{L:List Value},(∀v,v∈L→∃a c,v= .slice a 0 c)→∀v,v∈L→v.oneCell'=true:=fun h v hv=>by obtain⟨a,c,rfl⟩:=h v hv;rfl
   have hHa:∀q,Ha q→wr.heap[q]? =w.heap[q]? :=fun q hq=>hbel.block q (gu q hq) (fun h=>hHB q h hq)
   obtain⟨capb,hM⟩:=hB.mem (H:=Ha) (ks:=[(0,.pointer (some ⟨b,0,none⟩)),(1,.slice aa vs.length ac),(4,.int .i64 (i:Int))]) (fun q hq=>Nat.lt_of_lt_of_le (gu q hq) hbel.size) (fun q h2 h=>(hq q h2).elim (fun h'=>hHB q h' h) (fun h'=>by have:=gu q h;omega)) rc rc rc
    (cc (Rq cl fun v hv=>cv v (List.mem_of_mem_take hv))) (cc (Rq cf (nilc fn))) (cc (Rq cu (nilc un))) om om om
   rw[hnn,hnf,hnu]at hM;have hcell:V.cell (.c (vs.getD i undef))=true:=cv _ (by rw[List.getD_eq_getElem?_getD,List.getElem?_eq_getElem hilt];exact List.getElem_mem hilt);refine wp_seq_k fun K1 hK1=>?_
   have hk1:=PLift.up hK1;clear hK1;have f0:=(hs1 0 dc).trans h0;have f1:=(hs1 1 dc).trans h1;have f4:=(hs1 4 dc).trans h4;have iE:Conc wr ⟨Ha,Bq b WL WM WN,[(0,.pointer (some ⟨b,0,none⟩)),(1,.slice aa vs.length ac),(4,.int .i64 (i:Int))]⟩ wr Ha (bOv b capb WL WM WN) 42 a1 ⟨[(0,.pt 0 0),(1,.l 1 (vs.map V.c)),(4,.i .i64 (i:Int))],bO rs (n+i) (n+i) (n+i) ((Lv++vs.take i).map V.c) ((Fv++Fs).map V.c) ((Uv++Us).map V.c),4⟩:=by
    refine⟨hM,hz1,hd1.trans hd,fun m v hmv=>?_,?_,fun id hid=>?_⟩
    ·simp only[List.mem_cons,Prod.mk.injEq,List.not_mem_nil,or_false]at hmv;rcases hmv with ⟨rfl,rfl⟩|⟨rfl,rfl⟩|⟨rfl,rfl⟩<;>assumption
    ·refine Ji (fun t=>a1.tmps.getD t undef) _ fun p hp=>?_
     simp only[List.mem_cons,List.not_mem_nil,or_false]at hp;rcases hp with rfl|rfl|rfl
     ·show Rep _ _ _ (a1.tmps.getD 0 undef) _;rw[f0];exact .pt 0 0 b _ rfl rfl
     ·show Rep _ _ _ (a1.tmps.getD 1 undef) _;rw[f1];exact .base (hva.mono (fun _ h=>h) hHa)
     ·show Rep _ _ _ (a1.tmps.getD 4 undef) _;rw[f4];exact .i _ _
    ·match id,hid with
     |k+4,_=>rfl
   refine mid_go (N:=42) aX (c:=q1 (q2 (outL Tryz.f60))) (A:=(alp (abk a60.p2)).p2.p1) kf (fun m v hmv=>?nk) iE (Rk rs (n+i) i ((Lv++vs.take i).map V.c) ((Fv++Fs).map V.c) ((Uv++Us).map V.c) vs om hm hilt hcell hB.rc) ?_;case nk=>
    simp only[List.mem_cons,Prod.mk.injEq,List.not_mem_nil,or_false]at hmv;rcases hmv with ⟨rfl,_⟩|⟨rfl,_⟩|⟨rfl,_⟩<;>rfl
   rintro a2 w2 H2 ov2 s2 ⟨i1,i2,i3,o0,d12,d13,d23,o1,o2,o3,g0⟩ hc2;have j0:=hc2.kp 0 _ (.head _);have j1:=hc2.kp 1 _ (.tail _ (.head _));have j4:=hc2.kp 4 _ (.tail _ (.tail _ (.head _)));obtain⟨oI,oJ,oK,xl,xf,xu,hbx,⟨L1,L2⟩,⟨F1,F2⟩,⟨U1,U2⟩,s12,s13,s23,hq2⟩:=Bn.of hc2 j0 g0 o0 o1 o2 o3 d12 d13 d23;have one:∀{ys:List Value} {x:V},aj w2 H2 ys [x]→∃y,ys=[y]∧Rep0 w2 H2 y x:=fun {ys x} h=>by
    match ys,h.1 with
    |[y],_=>exact⟨y,rfl,h.2 0 y x rfl rfl⟩
   obtain⟨yl,rfl,hyl⟩:=tX L2;obtain⟨zl,rfl,hzl⟩:=one hyl;obtain rfl:=(Rep.up (ov:=fun _=>none) hzl).E8;obtain⟨yf,rfl,hyf⟩:=tX F2;obtain⟨zf,rfl,hzf⟩:=one hyf;obtain⟨yu,rfl,hyu⟩:=tX U2;obtain⟨zu,rfl,hzu⟩:=one hyu;have Gl:=hc2.mem.bel;have hz2:=hc2.EZ;have hd2:=hc2.BZ;have hsz1:=hbel.size;have hsz2:=Gl.size;refine hk1.down _ _ ?_;refine Rn hz2 j4 om fun a3 hz3 hs3 e4 hd3=>?_
   have htake:vs.take (i+1)=vs.take i++[vs.getD i undef]:=by
    rw[List.take_succ_eq_append_getElem hilt,List.getD_eq_getElem?_getD,List.getElem?_eq_getElem hilt];rfl
   refine⟨⟨i+1,hilt,hz3,(hs3 0 dc).trans j0,(hs3 1 dc).trans j1,by rw[e4];rfl,hd3.trans hd2,⟨oI,oJ,oK,Fs++[zf],Us++[zu],?_,by rw[List.length_append,hF];rfl,by rw[List.length_append,hU];rfl,fun v hv=>?_,fun v hv=>?_,fun q h2=>?_⟩,⟨Gl.os.trans hbel.os,Gl.tape.trans hbel.tape,Gl.output.trans hbel.output,om,fun q h2 hne=>(Gl.block q om (fun h=>(hq q h).elim hne (fun h=>om))).trans (hbel.block q h2 hne)⟩⟩,?_⟩
   ·rw[htake,←List.append_assoc,←List.append_assoc,←List.append_assoc];exact⟨hbx,by rw[List.length_append,hnn];exact L1,by rw[List.length_append,hnf];exact F1,by rw[List.length_append,hnu];exact U1,s12,s13,s23,hB.rc⟩
   ·rcases List.mem_append.1 hv with hv|hv
    ·exact fn v hv
    ·rw[List.mem_singleton.1 hv];exact nil1 hzf
   ·rcases List.mem_append.1 hv with hv|hv
    ·exact un v hv
    ·rw[List.mem_singleton.1 hv];exact nil1 hzu
   ·rcases(hq2 q h2).2 with h|h
    ·exact .inr om
    ·exact hq q h
   ·rw[e4,h4];simp only[intOf];omega
  ·obtain⟨⟨WL,WM,WN,Fs,Us,hB,hF,hU,fn,un,hq⟩,hbel⟩:=hI;obtain rfl:i=vs.length:=om;rw[List.take_length]at hB;exact⟨hd1.trans hd,_,aV (show bG Tryz.f60.results.toList=some []from rfl) _ _,WL,WM,WN,Fs,Us,rfl,hbel,hB,hF,hU,fn,un,hq⟩
end Go.Proofs.YtcgfgifjkkmmcaaGreatDoor
namespace Go.Proofs.YtcgfgifjkkmmcaaGreatDoor
open Go Go.RowKit Ab
def oh:=an @aH (an @Nat.div_one (an @Nat.mul_one (an @aO (an @eY (an @dF (an @wi (an @lX (an @Bool.false_and @dh))))))))
def LA(L:List (List Nat)):List V:=L.map fun a=>V.l 1 (W a)
theorem Rt(L:List (List Nat)):(LA L).length=L.length:=by simp[LA]
theorem LA_get(L:List (List Nat))(k:Nat)(h:k<L.length):(LA L).getD k .un= .l 1 (W (L.getD k [])):=by
 simp[LA,List.getD_eq_getElem?_getD,h]
theorem W_gtA(a:List Nat)(i:Nat)(h:i<a.length):(W a).getD i .un= .i .u64 ((a.getD i 0:Nat):Int):=by
 simp[W,List.getD_eq_getElem?_getD,h]
theorem AV(L:List (List Nat))(x0 y1 y2 y3 y4:V)(hL:L.length≤1000000)(ha:∀a,a∈L→a.length≤1000000000000):
 ah Tryz.prog J0 49 [.ip [x0,.l 1 (LA L),.l 1 (LA L),y1,y2,y3,y4] 0] (.b true):=by
 have hl:=Rt L
 refine d_ aX bV Tryz.func49 ?_
 refine aJ @oh ?_
 refine aF [] Nat (fun k=>⟨[(0,.ip [x0,.l 1 (LA L),.l 1 (LA L),y1,y2,y3,y4] 0),(3,.i .i64 (k:Int))],[],0⟩) (fun k=>k≤L.length) (fun k=>L.length-k) 0 (Nat.zero_le _) (by exact mF) (by
  exact jO) ?_
 intro k hk Q' hQ he hr
 by_cases h:(k:Int)<(L.length:Int)
 ·have hg:=LA_get L k om;have hmem:L.getD k []∈L:=by rw[List.getD_eq_getElem?_getD,List.getElem?_eq_getElem om];exact List.getElem_mem _
  have hal:=ha _ hmem;generalize L.getD k []=a at*
  refine aJ (ai @hl (ai @h @oh)) ?_;refine aF [] Nat (fun i=>⟨[(0,.ip [x0,.l 1 (LA L),.l 1 (LA L),y1,y2,y3,y4] 0),(3,.i .i64 (k:Int)),(4,.i .i64 (i:Int))],[],0⟩) (fun i=>i≤a.length) (fun i=>a.length-i) 0 (Nat.zero_le _) (by exact mF) (by
   exact jO) ?_
  intro i hi Q2 hQ2 he2 hr2;by_cases h2:(i:Int)<(a.length:Int)
  ·have hx:=W_gtA a i om;have hxx:(((a.getD i 0:Nat):Int)=((a.getD i 0:Nat):Int))=True:=eq_self _;generalize ((a.getD i 0:Nat):Int)=x at*
   refine aJ (ai @hxx (ai @hx (ai @h2 (ai @hg (ai @hl (ai @h @oh)))))) ?_;refine hQ2 _ (i+1) om om ?_;exact jO
  ·obtain rfl:i=a.length:=om;refine aJ (ai @h2 (ai @hg (ai @hl (ai @h @oh)))) ?_;refine he2 _ _ ?_;refine aJ @oh ?_;refine hQ _ (k+1) om om ?_;exact jO
 ·obtain rfl:k=L.length:=om;refine aJ (ai @hl (ai @h @oh)) ?_;refine he _ _ ?_;refine aJ @oh ?_;exact jX @oh
