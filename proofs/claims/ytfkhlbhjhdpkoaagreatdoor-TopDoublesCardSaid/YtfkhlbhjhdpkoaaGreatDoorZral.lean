/- The program's structures,as data. Written by dec3.py. -/
import Derived.Test.YtfkhlbhjhdpkoaaGreatDoorZrah
set_option linter.unusedVariables false
set_option linter.unusedSimpArgs false
namespace Go.Proofs.YtfkhlbhjhdpkoaaGreatDoor
open Go.RowKit
structure Source where
 Path:List UInt8
 Text:List UInt8
 deriving Inhabited,DecidableEq
def Jf(x:Source):D:=.ag [.v (str x.Path),.v (str x.Text)]
theorem Jtz(x y:Source)(h:Jf x=Jf y):x=y:=by
 rcases x with⟨_,_⟩; rcases y with⟨_,_⟩
 simp only[Jf,D.ag.injEq,List.cons.injEq,and_true]at h
 obtain⟨h0,h1⟩:=h
 have h0:=VF _ _ h0
 have h1:=VF _ _ h1
 subst_vars
 rfl
theorem Jsl(x y:Source)(h:Ke (Jf x)=Ke (Jf y)):x=y:=by
 rcases x with⟨_,_⟩; rcases y with⟨_,_⟩
 simp only[Jf,Ke,JbQ,List.map_cons,List.map_nil,D.ag.injEq,List.cons.injEq,and_true]at h
 obtain⟨h0,h1⟩:=h
 have h0:=VF _ _ h0
 have h1:=VF _ _ h1
 subst_vars
 rfl
instance:DInj Jf:=⟨Jsl,Jtz⟩
structure Limits where
 Fuel:Int
 Out:Int
 Deep:Int
 deriving Inhabited,DecidableEq
def Kw(x:Limits):D:=.ag [.v (.int .i64 x.Fuel),.v (.int .i64 x.Out),.v (.int .i64 x.Deep)]
theorem Jt4(x y:Limits)(h:Kw x=Kw y):x=y:=by
 rcases x with⟨_,_,_⟩; rcases y with⟨_,_,_⟩
 simp only[Kw,D.ag.injEq,List.cons.injEq,and_true]at h
 obtain⟨h0,h1,h2⟩:=h
 have h0:=JL _ _ h0
 have h1:=JL _ _ h1
 have h2:=JL _ _ h2
 subst_vars
 rfl
theorem Jsw(x y:Limits)(h:Ke (Kw x)=Ke (Kw y)):x=y:=by
 rcases x with⟨_,_,_⟩; rcases y with⟨_,_,_⟩
 simp only[Kw,Ke,JbQ,List.map_cons,List.map_nil,D.ag.injEq,List.cons.injEq,and_true]at h
 obtain⟨h0,h1,h2⟩:=h
 have h0:=JL _ _ h0
 have h1:=JL _ _ h1
 have h2:=JL _ _ h2
 subst_vars
 rfl
instance:DInj Kw:=⟨Jsw,Jt4⟩
structure Call where
 Name:List UInt8
 File:Int
 At:Int
 deriving Inhabited,DecidableEq
def Jk(x:Call):D:=.ag [.v (str x.Name),.v (.int .i64 x.File),.v (.int .i64 x.At)]
theorem Jfm(x y:Call)(h:Jk x=Jk y):x=y:=by
 rcases x with⟨_,_,_⟩; rcases y with⟨_,_,_⟩
 simp only[Jk,D.ag.injEq,List.cons.injEq,and_true]at h
 obtain⟨h0,h1,h2⟩:=h
 have h0:=VF _ _ h0
 have h1:=JL _ _ h1
 have h2:=JL _ _ h2
 subst_vars
 rfl
theorem JuZ(x y:Call)(h:Ke (Jk x)=Ke (Jk y)):x=y:=by
 rcases x with⟨_,_,_⟩; rcases y with⟨_,_,_⟩
 simp only[Jk,Ke,JbQ,List.map_cons,List.map_nil,D.ag.injEq,List.cons.injEq,and_true]at h
 obtain⟨h0,h1,h2⟩:=h
 have h0:=VF _ _ h0
 have h1:=JL _ _ h1
 have h2:=JL _ _ h2
 subst_vars
 rfl
theorem Ji5(x:Call):(Jk x).cells.all D.one=true:=rfl
instance:DInj Jk:=⟨JuZ,Jfm⟩
structure Token where
 Kind:Int
 Text:List UInt8
 Space:Bool
 First:Bool
 File:Int
 At:Int
 End:Int
 Line:Int
 Hide:List (List UInt8)
 Calls:List Call
 Made:Int
 deriving Inhabited,DecidableEq
def Ja(x:Token):D:=.ag [.v (.int .i64 x.Kind),.v (str x.Text),.v (.bool x.Space),.v (.bool x.First),.v (.int .i64 x.File),.v (.int .i64 x.At),.v (.int .i64 x.End),.v (.int .i64 x.Line),.sl 1 (List.map dS x.Hide),.sl 3 (List.map Jk x.Calls),.v (.int .i64 x.Made)]
theorem Jh7(x y:Token)(h:Ja x=Ja y):x=y:=by
 rcases x with⟨_,_,_,_,_,_,_,_,_,_,_⟩; rcases y with⟨_,_,_,_,_,_,_,_,_,_,_⟩
 simp only[Ja,D.ag.injEq,List.cons.injEq,and_true]at h
 obtain⟨h0,h1,h2,h3,h4,h5,h6,h7,h8,h9,h10⟩:=h
 have h0:=JL _ _ h0
 have h1:=VF _ _ h1
 have h2:=Xh _ _ h2
 have h3:=Xh _ _ h3
 have h4:=JL _ _ h4
 have h5:=JL _ _ h5
 have h6:=JL _ _ h6
 have h7:=JL _ _ h7
 have h8:=Jak (sz:=1) VF _ _ h8
 have h9:=Jak (sz:=3) Jfm _ _ h9
 have h10:=JL _ _ h10
 subst_vars
 rfl
theorem JuF(x y:Token)(h:Ke (Ja x)=Ke (Ja y)):x=y:=by
 rcases x with⟨_,_,_,_,_,_,_,_,_,_,_⟩; rcases y with⟨_,_,_,_,_,_,_,_,_,_,_⟩
 simp only[Ja,Ke,JbQ,List.map_cons,List.map_nil,D.ag.injEq,List.cons.injEq,and_true]at h
 obtain⟨h0,h1,h2,h3,h4,h5,h6,h7,h8,h9,h10⟩:=h
 have h0:=JL _ _ h0
 have h1:=VF _ _ h1
 have h2:=Xh _ _ h2
 have h3:=Xh _ _ h3
 have h4:=JL _ _ h4
 have h5:=JL _ _ h5
 have h6:=JL _ _ h6
 have h7:=JL _ _ h7
 have h8:=Jak (sz:=0) VF _ _ h8
 have h9:=Jak (sz:=0) Jfm _ _ h9
 have h10:=JL _ _ h10
 subst_vars
 rfl
theorem KO(x:Token):(Ja x).cells.all D.one=true:=rfl
instance:DInj Ja:=⟨JuF,Jh7⟩
structure Macro where
 Name:List UInt8
 Call:Bool
 Params:List (List UInt8)
 More:Bool
 Body:List Token
 deriving Inhabited,DecidableEq
def Je(x:Macro):D:=.ag [.v (str x.Name),.v (.bool x.Call),.sl 1 (List.map dS x.Params),.v (.bool x.More),.sl 11 (List.map Ja x.Body)]
theorem Ju4(x y:Macro)(h:Je x=Je y):x=y:=by
 rcases x with⟨_,_,_,_,_⟩; rcases y with⟨_,_,_,_,_⟩
 simp only[Je,D.ag.injEq,List.cons.injEq,and_true]at h
 obtain⟨h0,h1,h2,h3,h4⟩:=h
 have h0:=VF _ _ h0
 have h1:=Xh _ _ h1
 have h2:=Jak (sz:=1) VF _ _ h2
 have h3:=Xh _ _ h3
 have h4:=Jak (sz:=11) Jh7 _ _ h4
 subst_vars
 rfl
theorem Jt8(x y:Macro)(h:Ke (Je x)=Ke (Je y)):x=y:=by
 rcases x with⟨_,_,_,_,_⟩; rcases y with⟨_,_,_,_,_⟩
 simp only[Je,Ke,JbQ,List.map_cons,List.map_nil,D.ag.injEq,List.cons.injEq,and_true]at h
 obtain⟨h0,h1,h2,h3,h4⟩:=h
 have h0:=VF _ _ h0
 have h1:=Xh _ _ h1
 have h2:=Jak (sz:=0) VF _ _ h2
 have h3:=Xh _ _ h3
 have h4:=Jak (sz:=0) Jh7 _ _ h4
 subst_vars
 rfl
theorem Jo7(x:Macro):(Je x).cells.all D.one=true:=rfl
instance:DInj Je:=⟨Jt8,Ju4⟩
structure Fault where
 Err:Int
 File:Int
 At:Int
 deriving Inhabited,DecidableEq
def J9(x:Fault):D:=.ag [.v (.int .i64 x.Err),.v (.int .i64 x.File),.v (.int .i64 x.At)]
theorem Jvl(x y:Fault)(h:J9 x=J9 y):x=y:=by
 rcases x with⟨_,_,_⟩; rcases y with⟨_,_,_⟩
 simp only[J9,D.ag.injEq,List.cons.injEq,and_true]at h
 obtain⟨h0,h1,h2⟩:=h
 have h0:=JL _ _ h0
 have h1:=JL _ _ h1
 have h2:=JL _ _ h2
 subst_vars
 rfl
theorem JtM(x y:Fault)(h:Ke (J9 x)=Ke (J9 y)):x=y:=by
 rcases x with⟨_,_,_⟩; rcases y with⟨_,_,_⟩
 simp only[J9,Ke,JbQ,List.map_cons,List.map_nil,D.ag.injEq,List.cons.injEq,and_true]at h
 obtain⟨h0,h1,h2⟩:=h
 have h0:=JL _ _ h0
 have h1:=JL _ _ h1
 have h2:=JL _ _ h2
 subst_vars
 rfl
instance:DInj J9:=⟨JtM,Jvl⟩
structure Spliced where
 Text:List UInt8
 At:List Int
 deriving Inhabited,DecidableEq
def J6(x:Spliced):D:=.ag [.v (str x.Text),.sl 1 (List.map dI x.At)]
theorem Jsy(x y:Spliced)(h:J6 x=J6 y):x=y:=by
 rcases x with⟨_,_⟩; rcases y with⟨_,_⟩
 simp only[J6,D.ag.injEq,List.cons.injEq,and_true]at h
 obtain⟨h0,h1⟩:=h
 have h0:=VF _ _ h0
 have h1:=Jak (sz:=1) JL _ _ h1
 subst_vars
 rfl
theorem JoJ(x y:Spliced)(h:Ke (J6 x)=Ke (J6 y)):x=y:=by
 rcases x with⟨_,_⟩; rcases y with⟨_,_⟩
 simp only[J6,Ke,JbQ,List.map_cons,List.map_nil,D.ag.injEq,List.cons.injEq,and_true]at h
 obtain⟨h0,h1⟩:=h
 have h0:=VF _ _ h0
 have h1:=Jak (sz:=0) JL _ _ h1
 subst_vars
 rfl
instance:DInj J6:=⟨JoJ,Jsy⟩
structure drive_group where
 on_:Bool
 had_:Bool
 last_:Bool
 at_:Token
 deriving Inhabited,DecidableEq
abbrev YT:=UInt8×Bool
abbrev YS:=Int×Int×Int
abbrev YR:=List drive_group
abbrev YQ:=List (List Token)
abbrev YP:=(Int×Int) ⊕ Int
abbrev YO:=List (List UInt8)
abbrev YN:=(Int×Int) ⊕ Unit
abbrev YM:=(List UInt8)×Int
abbrev YL:=(List Token)×Int
abbrev YK:=Nat×(List Token)
abbrev YJ:=(Int×Int) ⊕ Bool
abbrev YI:=Int×(List Token)
abbrev YH:=(UInt8×Int) ⊕ Int
abbrev YG:=Int×Int×Int×Int
abbrev YF:=Nat×List (List UInt8)
abbrev YE:=(List UInt8)×Int×Int
abbrev YD:=Unit ⊕ YS
abbrev YC:=Bool×Bool×Bool×Int
abbrev YB:=Int×Int×YO
abbrev YA:=Int×(List UInt8)×Int×Bool
abbrev Yz:=YI ⊕ (List Token)
abbrev Yy:=Int×Int×Int×Int×(List Token)
abbrev Yx:=(List Token)×Int×Int×Int×Int
abbrev Yw:=Nat×Bool×Int×YR
abbrev Yv:=GR YG (Bool×Int)
abbrev Yu:=(List Token)×(List Int)×(List Macro)
abbrev Yt:=YE ⊕ (List UInt8)
abbrev Ys:=YI ⊕ ((List Token)×Fault)
abbrev Yr:=Int→List UInt8→Option ((List Token)×Fault)
abbrev Yq:=(Bool×Int×Int×(List Token)) ⊕ (List Token)
abbrev Yp:=(Bool×Bool×Int) ⊕ YC
abbrev Yo:=Int ⊕ Yp
abbrev Yn:=(List Token)×(List Int)×(List Macro)×Int×Int×Int
abbrev Ym:=((List UInt8)×(List Int)×Int×(List UInt8)) ⊕ Spliced
abbrev Yl:=((List Token)×Int×Int×(List Token)) ⊕ (Macro×Fault)
abbrev Yk:=Int×(List Macro)×(List Int)×(List Int)×Int×(List Token)
abbrev Yj:=GR YG Yw
abbrev Yi:=Int×Int×Int×Int×(List Macro)×(List Int)×(List Int)×Int×(List Token)
abbrev Yh:=(Int×Nat×(List Token)×(List Token)) ⊕ (GR YG YL)
abbrev Yg:=Int×(List UInt8)×Bool×Bool×Int×Int×Int×Int×YO×(List Call)×Int×Nat
abbrev Yf:=Bool×Int×(List UInt8)×Bool×Bool×Int×Int×Int×Int×YO×(List Call)×Int
abbrev Ye:=GR (Int×Int×Int×Int×List Macro×List Int×List Int×Int×List Token) (Int×List Macro×List Int×List Int×Int×List Token)
abbrev Yd:=GR Yi Yk
abbrev Yc:=Int→(List Source)→Int→Int→Int→(List Macro)→(List Int)→(List Int)→Int→(List Token)→Option Yd
abbrev Yb:=(List Token)→(List Source)→Int→Int→Int→(List Macro)→(List Int)→(List Int)→Int→(List Token)→Option Yd
abbrev Ya:=(Nat×Int×Int×Int×(List Macro)×(List Int)×(List Int)×Int×YR×(List Token)×(List Token)) ⊕ Yd
def Jj(x:drive_group):D:=.ag [.v (.bool x.on_),.v (.bool x.had_),.v (.bool x.last_),.v (.int .i64 x.at_.Kind),.v (str x.at_.Text),.v (.bool x.at_.Space),.v (.bool x.at_.First),.v (.int .i64 x.at_.File),.v (.int .i64 x.at_.At),.v (.int .i64 x.at_.End),.v (.int .i64 x.at_.Line),.sl 1 (List.map dS x.at_.Hide),.sl 3 (List.map Jk x.at_.Calls),.v (.int .i64 x.at_.Made)]
theorem JlP(x y:drive_group)(h:Jj x=Jj y):x=y:=by
 rcases x with⟨_,_,_,⟨_,_,_,_,_,_,_,_,_,_,_⟩⟩; rcases y with⟨_,_,_,⟨_,_,_,_,_,_,_,_,_,_,_⟩⟩
 simp only[Jj,D.ag.injEq,List.cons.injEq,and_true]at h
 obtain⟨h0,h1,h2,h3,h4,h5,h6,h7,h8,h9,h10,h11,h12,h13⟩:=h
 have h0:=Xh _ _ h0
 have h1:=Xh _ _ h1
 have h2:=Xh _ _ h2
 have h3:=JL _ _ h3
 have h4:=VF _ _ h4
 have h5:=Xh _ _ h5
 have h6:=Xh _ _ h6
 have h7:=JL _ _ h7
 have h8:=JL _ _ h8
 have h9:=JL _ _ h9
 have h10:=JL _ _ h10
 have h11:=Jak (sz:=1) VF _ _ h11
 have h12:=Jak (sz:=3) Jfm _ _ h12
 have h13:=JL _ _ h13
 subst_vars
 rfl
theorem Jki(x y:drive_group)(h:Ke (Jj x)=Ke (Jj y)):x=y:=by
 rcases x with⟨_,_,_,⟨_,_,_,_,_,_,_,_,_,_,_⟩⟩; rcases y with⟨_,_,_,⟨_,_,_,_,_,_,_,_,_,_,_⟩⟩
 simp only[Jj,Ke,JbQ,List.map_cons,List.map_nil,D.ag.injEq,List.cons.injEq,and_true]at h
 obtain⟨h0,h1,h2,h3,h4,h5,h6,h7,h8,h9,h10,h11,h12,h13⟩:=h
 have h0:=Xh _ _ h0
 have h1:=Xh _ _ h1
 have h2:=Xh _ _ h2
 have h3:=JL _ _ h3
 have h4:=VF _ _ h4
 have h5:=Xh _ _ h5
 have h6:=Xh _ _ h6
 have h7:=JL _ _ h7
 have h8:=JL _ _ h8
 have h9:=JL _ _ h9
 have h10:=JL _ _ h10
 have h11:=Jak (sz:=0) VF _ _ h11
 have h12:=Jak (sz:=0) Jfm _ _ h12
 have h13:=JL _ _ h13
 subst_vars
 rfl
theorem JnI(x:drive_group):(Jj x).cells.all D.one=true:=rfl
instance:DInj Jj:=⟨Jki,JlP⟩
end Go.Proofs.YtfkhlbhjhdpkoaaGreatDoor
