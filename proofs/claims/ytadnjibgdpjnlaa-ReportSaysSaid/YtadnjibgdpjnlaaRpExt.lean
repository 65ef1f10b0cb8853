/- The library's Clone, SortFunc and Compact at alarms. -/
import Derived.Test.YtadnjibgdpjnlaaRpExtA
import Derived.Test.YtadnjibgdpjnlaaRpExtC
import Derived.Test.YtadnjibgdpjnlaaRpExtD
