import Derived.Test.YtpjchngjhijgmaaGreatJQ38
set_option linter.all false
namespace Go.Proofs.YtpjchngjhijgmaaGreat
open Go.RowKit
theorem Zq486 {J:Jn} {n:Int} {ns:List Int}:fitsJ J (n::ns)=(fitsJ J [n]&&Zq262 J.r.shape J.r.set ns (rput J.r.shape J.fill (endJ J+1) n).1 (endJ J+1+1)):=by
 show (if (rput J.r.shape J.fill (endJ J+1) n).1=Fl.zero then false else if J.r.shape.sets≤(rput J.r.shape J.fill (endJ J+1) n).1.set - J.r.set then false else Zq262 J.r.shape J.r.set ns (rput J.r.shape J.fill (endJ J+1) n).1 (endJ J+1+1))=((if (rput J.r.shape J.fill (endJ J+1) n).1=Fl.zero then false else if J.r.shape.sets≤(rput J.r.shape J.fill (endJ J+1) n).1.set - J.r.set then false else true)&&_)
 split
 ·rfl
 ·split
  ·rfl
  ·simp
theorem Zq710 {J:Jn} {d:List Int} {p:Pl} {g:Fl} {nx:Bool} (hr:rput J.r.shape J.fill (endJ J+1) d.length=(g,p,nx,true)) (hf:fitsJ J [(d.length:Int)]=true) (ns:List Int):fitsJ J ((d.length:Int)::ns)=fitsJ (addJ J (newE J d) p g) ns:=by
 rw [Zq486,hf,Bool.true_and,hr]
 have he:endJ (addJ J (newE J d) p g)=endJ J+1:=by
  unfold endJ
  show J.r.first - 1+((J.l++[newE J d]).length:Int)=_
  rw [List.length_append,List.length_singleton]
  omega
 show _=Zq262 J.r.shape J.r.set ns g (endJ (addJ J (newE J d) p g)+1)
 rw [he]
theorem Zq639 {J:Jn} {n:Int} (hn:n<1∨90<n) (ns:List Int):fitsJ J (n::ns)=false:=by
 have h:(rput J.r.shape J.fill (endJ J+1) n).1=Fl.zero:=by
  unfold rput
  rw [if_pos (by rcases hn with q|q <;> simp [q])]
 show (if (rput J.r.shape J.fill (endJ J+1) n).1=Fl.zero then false else _)=false
 rw [if_pos h]
theorem Zq730 {S:Str} {J:Jn} (h:JOK S J):setsJ J≤J.r.shape.sets:=by
 have:=h.at.inside
 unfold setsJ
 omega
theorem put_set (f:Fl) (o x:Int):(f.put o x).set=f.set:=by
 unfold Fl.put
 repeat' split
 all_goals rfl
theorem put_ne {f:Fl} {o x:Int} (hx:x≠0):f.put o x≠Fl.zero:=by
 intro h
 unfold Fl.put Fl.zero at h
 repeat' split at h
 all_goals (simp only [Fl.mk.injEq] at h;omega)
theorem Zq640 {c:Rg} {f:Fl} (h:f.okB c=true) (o:Int):0≤f.get o:=by
 unfold Fl.okB at h
 rw [decide_eq_true_eq] at h
 unfold Fl.get
 repeat' split
 all_goals omega
theorem Zq487 {S:Str} {J:Jn} {n:Int} (h:JOK S J) (hn:1≤n∧n≤90) (he:endJ J<1099511627776) (hf:fitsJ J [n]=false):setsJ J=J.r.shape.sets:=by
 have hle:=Zq730 h
 have hin:=h.at.inside
 have h0:1≤endJ J+1:=by have:=h.ok.first.1;unfold endJ;omega
 have hfn:0<Zq93 n:=by unfold Zq93;omega
 have hg:=Zq640 h.at.ok ((endJ J+1) % J.r.shape.splay)
 have hu:rput J.r.shape J.fill (endJ J+1) n=if J.r.shape.size<J.fill.get ((endJ J+1) % J.r.shape.splay)+Zq93 n then
   ((Fl.put ⟨J.fill.set+1,0,0,0,0⟩ ((endJ J+1) % J.r.shape.splay) (Zq93 n)),⟨J.fill.set+1,(endJ J+1) % J.r.shape.splay⟩,true,true)
   else (J.fill.put ((endJ J+1) % J.r.shape.splay) (J.fill.get ((endJ J+1) % J.r.shape.splay)+Zq93 n),⟨J.fill.set,(endJ J+1) % J.r.shape.splay⟩,false,true):=by
  unfold rput
  rw [if_neg (by rw [h.ok.shape,h.at.ok];simp;omega)]
 change (if (rput J.r.shape J.fill (endJ J+1) n).1=Fl.zero then false else if J.r.shape.sets≤(rput J.r.shape J.fill (endJ J+1) n).1.set - J.r.set then false else true)=false at hf
 rw [hu] at hf
 unfold setsJ at hle ⊢
 split at hf
 ·simp only at hf
  rw [if_neg (put_ne (by omega)),put_set] at hf
  split at hf
  ·rename_i q
   simp only at q
   omega
  ·cases hf
 ·simp only at hf
  rw [if_neg (put_ne (by omega)),put_set,if_neg (by omega)] at hf
  cases hf
theorem Zq641 {c:Rg} {s0:Int}:∀ {es:List En} {ps:List Pl} {f0 f:Fl},laid c s0 es ps f0 f→f.set=(ps.getLast?.map Pl.set).getD f0.set
 | [],[],f0,f,h=>by have h:f=f0:=h;rw [h];rfl
 | [],_::_,_,_,h=>h.elim
 | _::_,[],_,_,h=>h.elim
 | e::es,p::ps,f0,f,h=>by
  obtain ⟨g,nx,hr,_,h2⟩:=h
  have ih:=Zq641 h2
  have hgp:g.set=p.set:=by
   unfold rput at hr
   split at hr
   ·simp at hr
   ·split at hr
    all_goals
     simp only [Prod.mk.injEq] at hr
     obtain ⟨rfl,rfl,_⟩:=hr
     rw [put_set]
  rw [ih,hgp]
  cases ps with
  | nil=>rfl
  | cons q qs=>rw [List.getLast?_cons_cons];cases hq:(q::qs).getLast? with
   | none=>simp at hq
   | some r=>rfl
theorem Zq261 (pos:Int):∀ (es:List En) (ps:List Pl) (i:Nat) (q:Int) (r:Nat × Int),ps.length=es.length→q≤pos→(∀ e ∈ es,e.seq≤pos)→(Zq105 pos es ps i q r).2=(ps.getLast?.map Pl.set).getD r.2
 | [],[],_,_,_,_,_,_=>rfl
 | [],_::_,_,_,_,h,_,_=>by simp at h
 | _::_,[],_,_,_,h,_,_=>by simp at h
 | e::es,p::ps,i,q,r,hl,hq,he=>by
  have hl2:ps.length=es.length:=by simpa using hl
  have he1:=he e (List.mem_cons_self ..)
  have he2:∀ x ∈ es,x.seq≤pos:=fun x hx=>he x (List.mem_cons_of_mem _ hx)
  have key:((p::ps).getLast?.map Pl.set).getD r.2=(ps.getLast?.map Pl.set).getD p.set:=by
   cases ps with
   | nil=>rfl
   | cons q qs=>rw [List.getLast?_cons_cons];cases hq:(q::qs).getLast? with
    | none=>simp at hq
    | some r=>rfl
  rw [key]
  unfold Zq105
  by_cases q1:p.set=r.2
  ·rw [if_pos q1,Zq261 pos es ps _ _ _ hl2 he1 he2,q1]
  ·rw [if_neg q1,if_neg (by omega),Zq261 pos es ps _ _ _ hl2 he1 he2]
end Go.Proofs.YtpjchngjhijgmaaGreat
namespace Go.Proofs.YtpjchngjhijgmaaGreat
open Go.RowKit
def leftJ (J:Jn):Jn:=if (doneJ J).1=0 then J else Zq30 J
theorem JOK.trim_calm {S:Str} {J:Jn} (h:JOK S J) (ha:S.armed=false):∃ S',Zq124 S J=(((((doneJ J).1:Nat):Int),0),S',leftJ J)∧JOK S' (leftJ J)∧S'.armed=false:=by
 unfold leftJ
 by_cases hd:(doneJ J).1=0
 ·obtain ⟨h1,h2⟩:=h.trimNone hd
  obtain ⟨S',e1,_,_,e4,_,_⟩:=h.flush_calm ha
  have hb:Zq34 S=(false,S):=by simp [Zq34,ha]
  have h0:(Zq9 S).1=0:=by unfold Zq9;rw [if_neg (by simp [h.live.on]),hb];rfl
  rw [if_pos h0] at h1
  rw [if_pos hd]
  refine ⟨(Zq9 S).2,by rw [h1,hd];rfl,h2 h0,by rw [e1];exact e4⟩
 ·obtain ⟨hr,he,hf⟩:=h.trimOp hd
  obtain ⟨t,ht,_⟩:=h.rec_
  have hpl:=Zq150 h.live ht hr
  obtain ⟨c1,c2⟩:=Zq137 Zq81 h.live ha (Zq325 S hr)
  rw [←hpl] at c1 c2
  obtain ⟨g1,g2,g3⟩:=hf c1
  obtain ⟨d1,d2⟩:=Zq137 Zq81 (Zq258 h.live ht hr c1).1 c2 g2
  rw [←g1] at d1 d2
  rw [if_pos c1,if_pos d1] at he
  rw [if_neg hd]
  exact ⟨_,he,g3 d1,d2⟩
theorem JOK.trim_one {S:Str} {J:Jn} (h:JOK S J) (hs:J.safe=endJ J) (hc:J.r.cls=[]) (h1:J.r.first=1):setsJ (leftJ J)=1∧endJ (leftJ J)=endJ J:=by
 have hpos:posD J=endJ J:=by unfold posD;rw [hc];exact hs
 have h0:0≤endJ J:=by unfold endJ;omega
 have hall:∀ e ∈ J.l,e.seq≤endJ J:=fun e he=>by have:=(run_seq h.run he).2;unfold endJ;omega
 have hlen:=h.at.len
 have hgo:=Zq261 (posD J) J.l J.at_ 0 0 (0,J.r.set) hlen (by rw [hpos];exact h0) (by rw [hpos];exact hall)
 have hset:=Zq641 h.lay
 have hd2:(doneJ J).2=J.fill.set:=by
  rw [hset]
  exact hgo
 unfold leftJ
 by_cases hd:(doneJ J).1=0
 ·rw [if_pos hd]
  refine ⟨?_,rfl⟩
  rcases h.done with e|⟨n,e,hn,_⟩
  ·rw [e] at hd2
   unfold setsJ
   have:J.r.set=J.fill.set:=hd2
   omega
  ·rw [e] at hd
   have:n=0:=hd
   omega
 ·rw [if_neg hd]
  rcases h.done with e|⟨n,e,hn,hnl,_⟩
  ·rw [e] at hd;exact absurd rfl hd
  ·refine ⟨?_,?_⟩
   ·show J.fill.set - (doneJ J).2+1=1
    omega
   ·show J.r.first+((doneJ J).1:Int) - 1+((J.l.drop (doneJ J).1).length:Int)=J.r.first - 1+(J.l.length:Int)
    rw [List.length_drop,e]
    show J.r.first+(n:Int) - 1+((J.l.length - n:Nat):Int)=_
    omega
theorem Zq394 {S:Str} {J:Jn} {m:Nat} (h:Keeps S (m+200)) (ht:(doneJ J).1≠0→(saveJ S (Zq21 J)).1=0→(Zq28 (saveJ S (Zq21 J)).2 ⟨2,0⟩).length≤32):Keeps (Zq124 S J).2.1 m:=by
 have h1:Keeps (saveJ S (Zq21 J)).2 (m+198):=Zq157 h
 unfold Zq124
 split
 ·exact h.fewer (by omega)
 ·split
  ·exact (Zq66 h).fewer (by omega)
  ·rename_i hd
   split
   ·exact h1.fewer (by omega)
   ·rename_i h0
    have h0':(saveJ S (Zq21 J)).1=0:=Classical.not_not.1 h0
    have ht':=ht hd h0'
    have h2:Keeps (trimJ (saveJ S (Zq21 J)).2 (goneJ (recJ J (goneR J.r (doneJ J).1 (doneJ J).2)) (doneJ J).1)).2 m:=Zq198 (h1.fewer (by omega))
    split
    ·exact h2
    ·exact h2
section
variable {W w : World} {I : Hp} {l : List HP} {p q : Nat} {J : Jn} {S : Str}
theorem Zq533 {m:Nat} (h:St W I w (Zq8 p S::jnHP q p J::l)) (hj:JOK S J) (ha:S.armed=false) (hk:Keeps S (m+200)) :
  Calls Tryz.prog 45 #[.pointer (some ⟨q,0,none⟩)] w fun e w'=>∃ I' S',I.sub I'∧e=.returned (.tuple #[.int .i64 ((doneJ J).1:Nat),.int .i64 0])∧St W I' w' (Zq8 p S'::jnHP q p (leftJ J)::l)∧JOK S' (leftJ J)∧S'.armed=false∧Keeps S' m:=by
 obtain ⟨t,ht,_⟩:=hj.rec_
 have hlive:(doneJ J).1≠0→(saveJ S (Zq21 J)).1=0→LiveJ UJn (saveJ S (Zq21 J)).2:=fun hd h0=>(Zq258 hj.live ht (hj.trimOp hd).1 h0).1
 obtain ⟨S',e1,e2,e3⟩:=hj.trim_calm ha
 have hs:=Zq432 (some J.r) (m:=m) (m2:=m) h (hk.fewer (by omega)) hj.jb hj.okB (fun r hr=>Zq201 hj.lay hj.ok.shape (by have:=hj.ok.set;have:=hj.small;omega) hr) hj.jrec (fun hd=>(hj.trimOp hd).1) fun hd h0=>by
  have hl:=hlive hd h0
  have hto:=hl.told
  have h1:Keeps (saveJ S (Zq21 J)).2 (m+198):=Zq157 hk
  exact ⟨h1.fewer (by show m+4*(Zq28 (saveJ S (Zq21 J)).2 ⟨2,0⟩).length≤m+198;omega),Nat.le_trans hl.inv.keyCount (by omega),hl.inv.seenB⟩
 have hk2:=Zq394 (m:=m) hk fun hd h0=>(hlive hd h0).told
 rw [e1] at hs hk2
 refine hs.mono ?_
 rintro e w' ⟨I',hs1,he,h2⟩
 exact ⟨I',S',hs1,he,h2,e2,e3,hk2⟩
end
end Go.Proofs.YtpjchngjhijgmaaGreat
namespace Go.Proofs.YtpjchngjhijgmaaGreat
open Go.RowKit
def clsJ (J:Jn) (x:List Cl × Int) (why:Int):Jn:=if why=0 then recJ J (clsR J.r x.1) else J
def upWhy (J:Jn) (id pos:Int):Int:=if mayC id pos=false then 1 else if endJ J<pos then 3 else 0
def Zq860 (J:Jn) (id pos:Int):Int:=if upWhy J id pos≠0 then upWhy J id pos else (addC J.r.cls id pos).2
def Zq834 (J:Jn) (id pos:Int):Int:=if upWhy J id pos≠0 then upWhy J id pos else (Zq644 J.r.cls id pos).2
section
variable {W w : World} {I : Hp} {l : List HP} {p q : Nat} {J : Jn} {S : Str}
end
end Go.Proofs.YtpjchngjhijgmaaGreat
namespace Go.Proofs.YtpjchngjhijgmaaGreat
open Go.RowKit
structure Firm (S:Str) (k:K4) (o:Option TS):Prop where
 late:lateAt S k=[]
 dry:get k S.dry=o
 seen:get k S.seen=o
def AllK (S:Str) (k:K4) (P:Option TS→Prop):Prop:=(∀ n torn,P (leftS S k n torn).1)∧P (get k S.seen)
def Still (S:Str):Prop:=∀ k,Firm S k (get k S.seen)
end Go.Proofs.YtpjchngjhijgmaaGreat
namespace Go.Proofs.YtpjchngjhijgmaaGreat
open Go.RowKit
def rowB (o:Option TS):List Int:=(o.map (·.b)).getD []
def mendD (V:K4→Option TS) (m1:List (K4 × List Int)) (k:K4):List DStep:=match V k with
 | none=>[]
 | some t=>if t.b=Zq12 m1 k∧Zq12 m1 k≠[] then [] else if Zq12 m1 k=[] then [.deed k goneD] else [.deed k ⟨2,(Zq12 m1 k).length,[],⟨#[]⟩⟩]
def Zq861 (V:K4→Option TS) (m1:List (K4 × List Int)) (ks:List K4):List DStep:=ks.flatMap (mendD V m1)++[.bar]
section
variable {V V' : K4 → Option TS} {m1 : List (K4 × List Int)} {k k' : K4} {ks : List K4} {t : TS} {S : Str}
end
structure JAny (S:Str) (J:Jn):Prop where
 live:LiveJ UJn S
 ok:J.r.Ok
 small:J.r.set+J.l.length≤1000000∧J.l.length≤100000
 run:runs J.l J.r.first
 ents:∀ e ∈ J.l,e.okB=true∧e.bytes∧e.tag=tagOf J.r.tags e.seq
 lay:laid J.r.shape J.r.set J.l J.at_ (layF J.r) J.fill
 rec_:∃ t,get kJ S.seen=some t∧get nmJ t.attr=some (recB J.r)
 rows:∀ k,k≠kJ→Zq12 (rowsJ J) k<+:rowB (get k S.seen)
 merged:Zq163 (readRows S) J.r.first=J.l
 dead:J.dead=false
 safe:0≤J.safe∧J.safe≤3299023255552
end Go.Proofs.YtpjchngjhijgmaaGreat
namespace Go.Proofs.YtpjchngjhijgmaaGreat
open Go.RowKit
def Zq829 (J:Jn) (k:K4):List En:=(J.l.zip J.at_).filterMap fun x=>if keyOf J.r.shape x.2=k then some x.1 else none
structure RowP (J:Jn) (s:Int) (k:K4) (o:Option TS):Prop where
 pre:rowB o<+:Zq36 (Zq829 J k)
 has:∀ M,M<+:Zq829 J k→(∀ e ∈ M,e.seq≤s)→Zq36 M<+:rowB o
structure JRest (S:Str) (J:Jn) (s:Int):Prop where
 live:LiveJ UJn S
 ok:J.r.Ok
 small:J.r.set+J.l.length≤1000000∧J.l.length≤100000
 run:runs J.l J.r.first
 ents:∀ e ∈ J.l,e.okB=true∧e.bytes∧e.tag=tagOf J.r.tags e.seq
 lay:laid J.r.shape J.r.set J.l J.at_ (layF J.r) J.fill
 rec_:∃ t,get kJ S.seen=some t∧get nmJ t.attr=some (recB J.r)
 rows:∀ k,k≠kJ→RowP J s k (get k S.seen)
 dead:J.dead=false
 safe:0≤J.safe∧J.safe≤3299023255552
end Go.Proofs.YtpjchngjhijgmaaGreat
namespace Go.Proofs.YtpjchngjhijgmaaGreat
open Go.RowKit
structure JWet (S:Str) (J:Jn) (s:Int):Prop where
 ok:JOK S J
 far:s≤endJ J
 rows:∀ k,k≠kJ→AllK S k (RowP J s k)
 rec_:∃ t,AllK S kJ (fun o=>o=some t)∧get nmJ t.attr=some (recB J.r)
end Go.Proofs.YtpjchngjhijgmaaGreat
namespace Go.Proofs.YtpjchngjhijgmaaGreat
open Go.RowKit
section
variable {W w : World} {I : Hp} {l : List HP}
set_option maxRecDepth 4000
set_option maxHeartbeats 8000000
theorem RowsI.cells {A:Option Addr} {c:Nat} {ls:List (List Int)} {i:Nat} {p:List Int} (h:RowsI I (.slice A ls.length c) ls) (hi:ls[i]?=some p):∃ b off A' c',A=some ⟨b,off,none⟩∧BytesI I (.slice A' p.length c') p∧∀ {W' w':World} {I':Hp} {l':List HP},I.sub I'→St W' I' w' l'→w'.cell? ⟨b,off+i,none⟩=some (.slice A' p.length c'):=by
 obtain ⟨vs,h1,⟨A1,c1,e,h2,h3,h4,h5,h6⟩,h7,h8⟩:=h
 have hil:=(List.getElem?_eq_some_iff.1 hi).1
 obtain ⟨x,hx⟩:∃ x,vs[i]?=some x:=⟨_,List.getElem?_eq_getElem (by omega)⟩
 have hb:=h7 i x p hx hi
 obtain ⟨A',c',e2,_⟩:=id hb
 obtain ⟨b,off,cs,t,f,e3,e4,e5⟩:=h6 (by omega)
 simp only [Value.slice.injEq] at e
 obtain ⟨rfl,_,_⟩:=e
 refine ⟨b,off,A',c',e3,by rw [←e2];exact hb,fun hs hst=>?_⟩
 have h9:=hst.imm _ _ (hs _ _ e4)
 rw [Zq1 h9,e5 i x hx,e2]
theorem IntsI.cells {A:Option Addr} {c:Nat} {ns:List Int} {i:Nat} {n:Int} (h:IntsI I (.slice A ns.length c) ns) (hi:ns[i]?=some n):∃ b off,A=some ⟨b,off,none⟩∧∀ {W' w':World} {I':Hp} {l':List HP},I.sub I'→St W' I' w' l'→w'.cell? ⟨b,off+i,none⟩=some (.int .i64 n):=by
 obtain ⟨A1,c1,e,h2,h3,h4,h5,h6⟩:=h
 have hil:=(List.getElem?_eq_some_iff.1 hi).1
 obtain ⟨b,off,cs,t,f,e3,e4,e5⟩:=h6 (by omega)
 simp only [Value.slice.injEq] at e
 obtain ⟨rfl,_,_⟩:=e
 refine ⟨b,off,e3,fun hs hst=>?_⟩
 have h9:=hst.imm _ _ (hs _ _ e4)
 rw [Zq1 h9,e5 i (intV n) (by rw [List.getElem?_map,hi];rfl)]
 rfl
theorem Zq534 (v:Value) (ls:List (List Int)) (h:St W I w l) (hv:RowsI I v ls) (hn:ls.length≤1000) :
  Calls Tryz.prog 15 #[v] w fun e w'=>∃ I' A4 c4 A5 c5,I.sub I'∧e=.returned (.tuple #[.slice A4 ls.length c4,.slice A5 ls.length c5])∧St W I' w' (Zq184 (.slice A4 ls.length c4) (ls.map rowOf)::HP.row 3 1 (.slice A5 ls.length c5) ls.length ((Zq126 (ls.map rowOf)).map intV)::l):=by
 obtain ⟨A0,c0,rfl,hc0,hcm,_⟩:=hv.slice
 have H0:=Zh hv
 have HBY:=Zh (show ∀ p ∈ ls,∀ y ∈ p,isByte y by obtain ⟨_,_,_,_,hq⟩:=hv;exact fun p hp=>(hq p hp).1)
 have H1:=Zh ((h.row_nil 3 1).rows_nil)
 have hn1:(ls.length:Int)≤1000:=by omega
 clear h hv hcm hc0
 go_enter Tryz.func15,Tryz.ntmps15
 go_wp2_with fail
 go_loopw [4,5,6,7] (fun a4 a5 a6 a7 wr=>∃ (i:Nat) (I':Hp) (A4:Option Addr) (c4:Nat) (A5:Option Addr) (c5:Nat),a6=.int .i64 i∧a4=.slice A4 i c4∧a5=.slice A5 i c5∧i≤ls.length∧I.sub I'∧St W I' wr (Zq184 (.slice A4 i c4) ((ls.take i).map rowOf)::HP.row 3 1 (.slice A5 i c5) i ((Zq126 ((ls.take i).map rowOf)).map intV)::l)) (fun _ _ a6 _ _=>ls.length - (intOf a6).toNat)
 case atStart=>exact ⟨0,I,none,0,none,0,rfl,rfl,rfl,Nat.zero_le _,Hp.sub.refl _,by simpa [Zq126] using H1.out⟩
 case round =>
  obtain ⟨i,I2,A4,c4,A5,c5,rfl,rfl,rfl,hi,hs2,h2⟩:=hrel
  clear H1
  by_cases hlt:i<ls.length
  ·obtain ⟨p,hp⟩:∃ p,ls[i]?=some p:=⟨_,List.getElem?_eq_getElem hlt⟩
   obtain ⟨b,off,A',c',rfl,y0,hbp⟩:=(H0.out.mono hs2).cell h2 hp
   have HP2:=Zh hbp
   have HBP:=Zh (HBY.out p (List.mem_of_getElem? hp))
   have htk:(ls.take (i+1)).map rowOf=(ls.take i).map rowOf++[rowOf p]:=by rw [List.take_add_one,hp,List.map_append];rfl
   have HTK:=Zh htk
   have H2:=Zh h2
   have HS2:=Zh hs2
   obtain ⟨w2,hw2⟩:∃ x,x=wr:=⟨_,rfl⟩
   rw [←hw2] at H2 y0 ⊢
   clear hbp hp h2 hs2 htk hw2
   go_upto_if 20 with fail
   go_cut [7] from 8 to 35 (fun s7 wc=>∃ (A6:Option Addr) (c6:Nat) (P:List Int) (I3:Hp),s7=.slice A6 P.length c6∧I2.sub I3∧BytesI I3 (.slice A6 P.length c6) P∧rowOf p=P.take (min P.length 90)∧(∀ y ∈ P,isByte y)∧St W I3 wc (Zq184 (.slice A4 i c4) ((ls.take i).map rowOf)::HP.row 3 1 (.slice A5 i c5) i ((Zq126 ((ls.take i).map rowOf)).map intV)::l))
   case first =>
    by_cases hp0:p=[]
    ·subst hp0
     obtain ⟨I3,hs3,hb3,h3⟩:=Zq391 (x:=7) (H2.out.alloc (.cells #[.int .u8 7] 5))
     have H3:=Zh h3
     have HB3:=Zh hb3
     have HS3:=Zh hs3
     clear h3 hb3 hs3
     go_wp2_with fail
     go_meet
     exact ⟨_,_,[7],I3,rfl,HS3.out,HB3.out,rfl,(by intro y hy;rw [List.mem_singleton.1 hy];unfold isByte;omega),H3.out⟩
    ·have hpl:=List.length_pos_iff.2 hp0
     have d1:((p.length:Int)==0)=false:=by simp;exact hp0
     have d2:¬ p.length=0:=by omega
     have HX:=Zh (show rowOf p=p.take (min p.length 90) by unfold rowOf;rw [if_neg hp0,List.take_eq_take_iff];omega)
     go_wp2_with fail
     go_meet
     exact ⟨_,_,p,I2,rfl,Hp.sub.refl _,HP2.out,HX.out,HBP.out,H2.out⟩
   case rest =>
    obtain ⟨A6,c6,P,I3,rfl,hs3,hb3,hrow,hby,h3⟩:=hcut
    obtain ⟨w3,hw3⟩:∃ x,x=wc:=⟨_,rfl⟩
    rw [←hw3] at h3 ⊢
    clear hw3 y0
    obtain ⟨m,hm⟩:∃ m,m=min P.length 90:=⟨_,rfl⟩
    have hbm:=Zq574 hb3 (m:=m) (by omega)
    rw [←hm] at hrow
    have hml:(rowOf p).length=m:=by rw [hrow,List.length_take];omega
    rw [←hrow] at hbm
    have hil:((ls.take i).map rowOf).length=i:=by rw [List.length_map,List.length_take];omega
    obtain ⟨A7,c7,w7,hr7,h7⟩:=St.rows_append (g:=w3.heap.size) rfl h3 hbm (fun y hy=>hby y (by rw [hrow] at hy;exact List.mem_of_mem_take hy)) (by rw [hil];omega)
    rw [hil] at hr7 h7
    have h7':=h7.pull 1 _ rfl
    obtain ⟨v8,w8,hr8,h8⟩:=St.ints_append 28 (h7'.keep (Zq3 w7 (.cells #[.int .i64 m] 3))) (Zq725 w7 (.int .i64 m) 3 rfl) (by omega)
    obtain ⟨A8,c8,rfl⟩:=Zq15 h8.row_owns
    have hlens:(Zq126 ((ls.take i).map rowOf)).map intV++[.int .i64 m]=(Zq126 ((ls.take (i+1)).map rowOf)).map intV:=by
     rw [HTK.out]
     unfold Zq126
     rw [List.map_append,List.map_append,List.map_singleton,List.map_singleton,hml]
     rfl
    rw [hlens] at h8
    rw [←HTK.out] at h8
    have H8:=Zh (h8.pull 1 _ rfl)
    have HR7:=Zh hr7
    have HR8:=Zh hr8
    have HS3:=Zh (HS2.out.trans hs3)
    have hmin:min (P.length:Int) 90=(m:Int):=by omega
    have hmle:m≤P.length:=by omega
    have hc6:P.length≤c6:=by
     obtain ⟨_,_,e,_,hc,_⟩:=hb3
     simp only [Value.slice.injEq] at e
     obtain ⟨_,_,rfl⟩:=e
     exact hc
    clear hb3 hbm hrow hml h3 h7 h7' h8 hr7 hr8 hs3 hlens hil hby HP2 HTK hm
    go_upto_region 11 with (at_builtin;refine Lib.wpList_append_run _ rfl (.tmp 27) (.tmp 29) 22 22 rfl _ _ rfl rfl _ _ HR7.out ?_)
    go_wp2_with (at_builtin;refine Lib.wpList_append_run _ rfl (.tmp 31) (.tmp 34) 28 28 rfl _ _ rfl rfl _ _ HR8.out ?_)
    go_roundw
    case rel=>exact ⟨i+1,I3,A7,c7,A8,c8,by go_num,rfl,rfl,by omega,HS3.out,H8.out⟩
    case measure=>first|(simp [intOf];done)|(simp [intOf];omega)|fail
  ·obtain rfl:i=ls.length:=by omega
   rw [List.take_length] at h2
   have H2:=Zh h2
   have HS2:=Zh hs2
   clear h2 hs2
   go_wp2_with fail
   go_ret2
   exact ⟨I2,A4,c4,A5,c5,HS2.out,rfl,H2.out⟩
theorem St.freeze_win {e:TypeId} {size:Nat} {v:Value} {n:Nat} {xs:List Value} (h:St W I w (HP.win e size v n xs::l)):∃ I':Hp,I.sub I'∧RowI I' size v n xs∧St W I' w l:=by
 obtain ⟨hl,p⟩:=h.win_open
 rcases p with ⟨rfl,rfl,s⟩|⟨g,q,cap,cur,rfl,p3,p4,p5,p6,s⟩
 ·exact ⟨I,Hp.sub.refl _,⟨none,0,rfl,hl,Nat.le_refl _,Nat.zero_le _,fun _=>rfl,fun h=>absurd h (by omega)⟩,s⟩
 ·obtain ⟨I',hs,hI,s⟩:=s.freeze
  refine ⟨I',hs,⟨some ⟨g,q,none⟩,cap,rfl,hl,p3,p4,(fun e=>by cases e),fun _=>⟨g,q,cur,e,(0,0),rfl,hI,fun i x hx=>?_⟩⟩,s⟩
  rw [←p6,List.getElem?_take] at hx
  split at hx
  ·rw [List.getElem?_drop] at hx
   simpa using hx
  ·cases hx
theorem St.rows_freeze {v:Value} {rs:List (List Int)} (h:St W I w (Zq184 v rs::l)) (hr:∀ r ∈ rs,r.length≤1000000):∃ I',I.sub I'∧RowsI I' v rs∧St W I' w l:=by
 obtain ⟨vs,h1⟩:=h.ex_open
 obtain ⟨hd,h2⟩:=((h1.all_open).pull 1 _ rfl).imm_open
 have hl:=h2.win_len
 obtain ⟨I',hs,hI,h3⟩:=h2.freeze_win
 refine ⟨I',hs,⟨vs,by omega,hI,fun i x q hx hq=>?_,fun q hq=>?_⟩,h3⟩
 ·obtain ⟨x',h5,h6,_⟩:=hd i q hq
  rw [hx] at h5
  obtain rfl:=Option.some.inj h5
  exact RowI.mono hs h6
 ·obtain ⟨i,hi⟩:=List.getElem?_of_mem hq
  obtain ⟨_,_,_,h7⟩:=hd i q hi
  exact ⟨h7,by have:=hr q hq;unfold maxLen;omega⟩
theorem Zq295 (v:Value) (ls:List (List Int)) (h:St W I w l) (hv:RowsI I v ls) (hn:ls.length≤1000) :
  Calls Tryz.prog 15 #[v] w fun e w'=>∃ (I':Hp) (A4:Option Addr) (c4:Nat) (A5:Option Addr) (c5:Nat) (ps:List (List Int)) (ns:List Int),I.sub I'∧ps=ls.map rowOf∧ns=Zq126 ps∧e=.returned (.tuple #[.slice A4 ps.length c4,.slice A5 ns.length c5])∧RowsI I' (.slice A4 ps.length c4) ps∧IntsI I' (.slice A5 ns.length c5) ns∧St W I' w' l:=by
 refine (Zq534 v ls h hv hn).mono ?_
 rintro e w' ⟨I1,A4,c4,A5,c5,hs1,rfl,h1⟩
 obtain ⟨I2,hs2,hr2,h2⟩:=h1.rows_freeze (by
  intro r hr
  obtain ⟨p,_,rfl⟩:=List.mem_map.1 hr
  have:=Zq485 p;omega)
 obtain ⟨I3,hs3,hr3,h3⟩:=h2.freeze_row
 have e1:(ls.map rowOf).length=ls.length:=List.length_map _
 have e2:(Zq126 (ls.map rowOf)).length=ls.length:=by unfold Zq126;rw [List.length_map,List.length_map]
 refine ⟨I3,A4,c4,A5,c5,ls.map rowOf,Zq126 (ls.map rowOf),(hs1.trans hs2).trans hs3,rfl,rfl,by rw [e1,e2],?_,?_,h3⟩
 ·rw [e1];exact hr2.mono hs3
 ·unfold IntsI
  rw [e2]
  exact hr3
theorem Zq296 {ls:List (List Int)} (h:∀ p ∈ ls,∀ y ∈ p,isByte y):∀ p ∈ ls.map rowOf,(1≤p.length∧p.length≤90)∧∀ y ∈ p,isByte y:=by
 intro p hp
 obtain ⟨q,hq,rfl⟩:=List.mem_map.1 hp
 exact ⟨Zq485 q,Zq532 (h q hq)⟩
theorem Zq642 (ps:List (List Int)):(Zq126 ps).length=ps.length:=List.length_map _
end
end Go.Proofs.YtpjchngjhijgmaaGreat
namespace Go.Proofs.YtpjchngjhijgmaaGreat
open Go.RowKit
section
variable {W w : World} {I : Hp} {l : List HP} {p : Nat} {S : Str}
set_option maxRecDepth 4000
set_option maxHeartbeats 8000000
end
end Go.Proofs.YtpjchngjhijgmaaGreat
namespace Go.Proofs.YtpjchngjhijgmaaGreat
open Go.RowKit
theorem Zq297 (ts:List Tag):∀ (s:Int) (ps:List (List Int)),(Zq402 ts s ps).map (·.data)=ps
 | _,[]=>rfl
 | s,p::ps=>by
  unfold Zq402
  rw [List.map_cons,Zq297 ts (s+1) ps]
end Go.Proofs.YtpjchngjhijgmaaGreat
namespace Go.Proofs.YtpjchngjhijgmaaGreat
open Go.RowKit
structure TM (S:Str) (J:Jn) (i:Nat):Prop where
 ok:JOK S J
 calm:S.armed=false
 ks:Keeps S (90000 - 10*i)
 cls:J.r.cls=[]
 first:J.r.first=1
 set:J.r.set=0
 len:J.l.length≤i
theorem TM.ends {S:Str} {J:Jn} {i:Nat} (h:TM S J i):endJ J=J.l.length:=by unfold endJ;rw [h.first];omega
theorem TM.later {S:Str} {J:Jn} {i j:Nat} (h:TM S J i) (hij:i≤j):TM S J j:=⟨h.ok,h.calm,h.ks.fewer (by omega),h.cls,h.first,h.set,Nat.le_trans h.len hij⟩
theorem TM.flush {S:Str} {J:Jn} {i:Nat} (h:TM S J i):∃ S',Zq399 S J=(0,S',safeJ J)∧TM S' (safeJ J) i:=by
 obtain ⟨S',e1,e2,e3,e4,_,_⟩:=h.ok.flush_calm h.calm
 refine ⟨S',e2,⟨e3,e4,?_,h.cls,h.first,h.set,h.len⟩⟩
 rw [←e1]
 exact Zq66 h.ks
theorem TM.append {S:Str} {J:Jn} {i:Nat} {d:List Int} (h:TM S J i) (hi:i≤100) (hd:1≤d.length∧d.length≤90) (hb:∀ y ∈ d,isByte y) (hf:fitsJ J [(d.length:Int)]=true):∃ S' g pl nx,rput J.r.shape J.fill (endJ J+1) d.length=(g,pl,nx,true)∧Zq39 S J d=((endJ J+1,0),S',addJ J (newE J d) pl g)∧TM S' (addJ J (newE J d) pl g) (i+1)∧(addJ J (newE J d) pl g).l.map (·.data)=J.l.map (·.data)++[d]:=by
 have hlen:=h.len
 obtain ⟨S',g,pl,nx,hr,e1,e2,e3,_⟩:=h.ok.append_calm (d:=d) h.calm hd hb hf (by rw [h.set];omega)
 have hk:=Zq224 (J:=J) (d:=d) (m:=90000 - 10*(i+1)) (h.ks.fewer (by omega))
 rw [e1] at hk
 have hl:(addJ J (newE J d) pl g).l=J.l++[newE J d]:=rfl
 refine ⟨S',g,pl,nx,hr,e1,⟨e2,e3,hk,h.cls,h.first,h.set,?_⟩,?_⟩
 ·rw [hl,List.length_append,List.length_singleton];omega
 ·rw [hl,List.map_append];rfl
theorem TM.no {S:Str} {J:Jn} {i:Nat} {d:List Int} (h:TM S J i) (hd:1≤d.length∧d.length≤90) (hf:fitsJ J [(d.length:Int)]=false):Zq39 S J d=((0,6),S,J):=by
 unfold Zq39
 rw [if_neg (by simp [h.ok.may]),if_neg (by omega),if_pos hf]
end Go.Proofs.YtpjchngjhijgmaaGreat
